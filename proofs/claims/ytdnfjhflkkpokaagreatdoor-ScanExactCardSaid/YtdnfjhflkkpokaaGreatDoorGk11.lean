/- Joined texts of the walk, made small by a program. -/
import Derived.Test.YtdnfjhflkkpokaaGreatDoorGk4
import Derived.Test.YtdnfjhflkkpokaaGreatDoorRows
import Derived.KernelRfl
import Derived.Test.YtdnfjhflkkpokaaGreatDoorGk8
import Derived.Laws.Externs
import Derived.Lib.Overlaps
import Derived.Test.YtdnfjhflkkpokaaGreatDoorGk5
import Derived.Test.YtdnfjhflkkpokaaGreatDoorGk7
import Derived.Test.YtdnfjhflkkpokaaGreatDoorGk10
import Derived.Shelf.Strings.Builder1
import Derived.Shelf.Strings.Builder2
import Derived.Shelf.Strings.OnBuilder
import Derived.Shelf.Small.Bits
import Derived.Shelf.Small.Strs
import Derived.Shelf.Strconv.Itoa0
import Derived.Shelf.Strconv.Itoa1
import Derived.Shelf.LaysM
import Derived.Shelf.Strconv.Itoa2
import Derived.Shelf.Strconv.Itoa3
import Derived.Shelf.Strconv.Itoa4
import Derived.Shelf.Strconv.ParseIntEmpty
import Derived.Shelf.Strconv.Clone
import Derived.Shelf.Strconv.SyntaxError
import Derived.Shelf.LaysC
import Derived.Shelf.Strconv.ToError
import Derived.Shelf.Strconv.Lower
import Derived.Shelf.Strconv.ParseUint10
import Derived.Shelf.Strconv.ParseUint10Empty
import Derived.Shelf.Strconv.ParseUint10Any
import Derived.Shelf.Strconv.ParseInt10
import Derived.Shelf.Strconv.RangeError
import Derived.Shelf.Strconv.ToErrorRange
import Derived.Shelf.Strconv.ParseUintEmpty
import Derived.Shelf.Strconv.ParseUint10b64
import Derived.Shelf.Strconv.ParseUint10b32
import Derived.Shelf.Strconv.ParseUint10b16
import Derived.Shelf.Strconv.ParseUint10b8
import Derived.Shelf.Strconv.ParseUint10At
import Derived.Shelf.Strconv.ParseInt10At64
import Derived.Shelf.Strconv.ParseInt10At32
import Derived.Shelf.Strconv.ParseInt10At16
import Derived.Shelf.Strconv.ParseInt10At8
import Derived.Shelf.Strconv.ParseInt10All
import Derived.Shelf.Strconv.ParseIntPublic10
import Derived.Shelf.Strconv.ErrVarParseInt
import Derived.Shelf.Strings.Search1
import Derived.Shelf.Strings.Search2
import Derived.Shelf.Strings.Search3
import Derived.Shelf.Strings.Cut
import Derived.Shelf.Strings.Shaped
import Derived.Shelf.Sort.Plain
import Derived.Shelf.GgClosure.StringsIndexFunc
import Derived.Ground.GgwProg
import Derived.Shelf.GgClosure.StringsIndexFuncTop
import Derived.Shelf.GgClosure.StringsRunes
import Derived.Shelf.Strings.Prefix
import Derived.Shelf.Slices.Equal
import Derived.Ground.Names2Prog
import Derived.Shelf.Slices.Clone
import Derived.Shelf.Slices.In.SortNone
import Derived.Ground.SlsfProg
import Derived.Shelf.SlSortCmp.Insertion
import Derived.Shelf.SlSortCmp.SiftDown1
import Derived.Shelf.SlSortCmp.HeapSort1
import Derived.Shelf.SlSortCmp.Insertion1
import Derived.Shelf.SlSortCmp.Median1
import Derived.Shelf.SlSortCmp.Pivot1
import Derived.Shelf.SlSortCmp.ReverseRange1
import Derived.Shelf.SlSortCmp.PartialInsertion1
import Derived.Shelf.SlSortCmp.PartitionEqual1
import Derived.Shelf.SlSortCmp.Partition1
import Derived.Shelf.SlSortCmp.Pdq1
import Derived.Shelf.SlSortCmp.Whole1
import Derived.Shelf.Spec.SlicesGrow
import Derived.Ground.Names8Prog
import Derived.Test.YtdnfjhflkkpokaaGreatDoorProg
set_option linter.unusedSimpArgs false
set_option linter.unusedVariables false
set_option maxRecDepth 100000
namespace Go.Proofs.YtdnfjhflkkpokaaGreatDoor.Av
open Go
variable {f:FuncId}{caps C:List AV}{v:AV}{cap:Option Nat}{n:List UInt8}{ty:Typ}{ts:List Typ}
def Jz:LSO:=[Ac 4 0,Af 5]
def Jy:LSO:=[Aa 6 0,Aa 7 1,Aj 8 46 7,o1 9 (.call 158 [(tm 6),(tm 8),(.av (.func 159 []))]),Ao 10 9,Aq 11 9,Aa 4 10,Aa 5 11]
def jA:aK:=⟨12,(ash Jz [] (ash Jy CI .ret)),[(.tmp 4),(.tmp 5)]⟩
attribute [push_cast] Jz Jy
theorem Ew:asm 103=asn jA:=asq
def vT:LSO:=[Ay 2 0,Ac 4 0]
def vS:LSO:=[Ad 5 0 2,Ab 6 1 5,Aj 7 46 6,Aa 8 1,Ar 9 118 7 8,Aa 4 9]
def iG:aK:=⟨10,(ash vT [] (ash vS CB .ret)),[(.tmp 4)]⟩
attribute [push_cast] vT vS
theorem tM:asm 159=asn iG:=asq
def Jx:LSO:=[Ay 3 0,Ac 6 0,Af 7,Af 8]
def Jw:LSO:=[Ad 14 1 3,Ab 15 1 14,Aa 16 2,Ar 17 68 15 16,Aa 13 17,Ao 18 13,Aq 19 13,Aa 9 18,Aa 10 19]
def Jv:LSO:=[Aa 20 10,A3 21 20]
def Ju:LSO:=[Ac 6 0,Af 7,Af 8]
def Jt:LSO:=[Aa 23 1,Aa 24 9,o1 25 (.mkfn 166 [(tm 3)]),AF 26 165 23 24 25,Aa 22 26,Ao 27 22,Aq 28 22,Aa 11 27,Aa 12 28]
def Js:LSO:=[Aa 29 11,Aa 30 12,Aa 6 29,Aa 7 30,A5 8]
def jz:aK:=⟨31,(ash Jx [] (ash Jw CR (.seq (ash Jv C4 (asj 21 (.sreg Ju []))) (ash Jt CR (ash Js CV .ret))))),[(.tmp 6),(.tmp 7),(.tmp 8)]⟩
attribute [push_cast] Jx Jw Jv Ju Jt Js
theorem Ev:asm 111=asn jz:=asq
def vR:LSO:=[Ac 5 0]
def vQ:LSO:=[Ad 9 1 2,Ab 10 1 9,Aa 11 0,Ar 12 68 10 11,Aa 8 12,Ao 13 8,Aq 14 8,Aa 6 13,Aa 7 14]
def vP:LSO:=[Aa 15 6,Aa 16 1,Ar 17 118 15 16,Aa 5 17]
def pq:aK:=⟨18,(ash vR [] (ash vQ Di (ash vP C7 .ret))),[(.tmp 5)]⟩
attribute [push_cast] vR vQ vP
theorem Sy:asm 166=asn pq:=asq
def Q7:LSO:=[Ak 4]
def Q6:LSO:=[Aa 8 0,Aa 9 1,Ar 10 103 8 9,Aa 7 10,Ao 11 7,Aq 12 7,Aa 5 11,Aa 6 12]
def Q5:LSO:=[Aa 13 6]
def Q4:LSO:=[Aa 14 0,Aa 15 5,Am 16 2 14 15,Ad 17 1 16,Ab 18 1 17,Aj 19 47 18,Aa 4 19]
def Q3:LSO:=[Ak 4]
def i6:aK:=⟨20,(ash Q7 [] (.seq (ash Q6 CI (ash Q5 [] (asj 13 (.sreg Q4 CC)))) (ash Q3 [] .ret))),[(.tmp 4)]⟩
attribute [push_cast] Q7 Q6 Q5 Q4 Q3
theorem tN:asm 67=asn i6:=asq
def Q2:LSO:=[Ay 4 0,Af 8]
def Q0:LSO:=[As 17 2 4,Aa 18 2,Ar 19 45 17 18,Aa 16 19,Ao 20 16,Aq 21 16,Bx 9,Ap 4 9 20,Aa 10 21]
def QZ:LSO:=[Aa 23 1,Aa 24 2,Ar 25 103 23 24,Aa 22 25,Ao 26 22,Aq 27 22,Aa 11 26,Aa 12 27]
def QY:LSO:=[Aa 28 10,A3 29 28,Aa 30 29,.grp none 30 false
 [Ag 31 30 12,AZ 32 30 31]
 33 (tm 32)]
def QX:LSO:=[Af 8]
def QW:LSO:=[As 35 4 9,Aa 36 1,Aa 37 11,Am 38 2 36 37,Ad 39 1 38,Ab 40 1 39,Aa 41 3,AF 42 111 35 40 41,Aa 34 42,Ao 43 34,Aq 44 34,Be 45 34,Aa 13 43,Aa 14 44,Aa 15 45]
def QV:LSO:=[Aa 46 14,Aa 8 46]
def NY:aK:=⟨47,(ash Q2 [] (ash Q0 CI (ash QZ CI (.seq (ash QY C7 (asj 33 (.sreg QX []))) (.seq (.sdreg QW [(.read 0 0),.pure,.pure,(.read 0 0),.pure,(.read 0 0),.pure,(.read 0 0),.pure,.pure,.pure,.pure,.pure,.pure] [false,true,false,false,false,false,false,false,false,false,false,false,false,false,false]) (ash QV C4 .ret)))))),[(.tmp 8)]⟩
attribute [push_cast] Q2 Q0 QZ QY QX QW QV
theorem Z6:asm 70=asn NY:=asq
def FU:LSO:=[Ay 2 0,Bx 4,Af 5]
def FT:LSO:=[As 6 2 2,o1 7 (.build [(.sl [] 0 (some 0)),(.sl [] 0 (some 0))] [(0,(2,(tm 6)))]),Aa 8 1,Ar 9 95 7 8,Ao 10 9,Aq 11 9,Ap 4 4 10,Aa 5 11]
def wy:aK:=⟨12,(ash FU [] (ash FT CC .ret)),[(.cell true 4 4),(.tmp 5)]⟩
attribute [push_cast] FU FT
theorem Ws:asm 45=asn wy:=asq
def nR:LSO:=[Ay 2 0,Ay 3 1,Bx 4,Af 5]
def nQ:LSO:=[Ad 7 0 2,Ad 8 0 7,Ab 9 1 8,o1 10 (.mkfn 144 [(tm 3)]),Ar 11 143 9 10,Aa 6 11]
def nP:LSO:=[Aa 12 6,AJ 13 12 0]
def nO:LSO:=[o1 14 (.build [(.str []),(.int .i64 0),(.bool false),(.bool false)] []),Ap 4 4 14,Af 5]
def nN:LSO:=[Ad 15 0 2,Ad 16 0 15,Ab 17 1 16,Aa 18 6,Am 19 4 17 18,As 20 4 19,Ap 4 4 20,A5 5]
def jN:aK:=⟨21,(ash nR [] (ash nQ CB (.seq (ash nP C4 (asj 13 (.sreg nO C4))) (ash nN CC .ret)))),[(.cell true 4 4),(.tmp 5)]⟩
attribute [push_cast] nR nQ nP nO nN
theorem JN:asm 95=asn jN:=asq
def kW:LSO:=[Ay 2 0,Af 3]
def kV:LSO:=[Ad 4 0 2,Ab 5 1 4,Ab 6 1 1,Ar 7 145 5 6,Aa 3 7]
def iW:aK:=⟨8,(ash kW [] (ash kV CA .ret)),[(.tmp 3)]⟩
attribute [push_cast] kW kV
theorem Et:asm 144=asn iW:=asq
def FR:LSO:=[Af 4]
def FQ:LSO:=[Aa 5 0,Aj 6 46 5,Aa 7 1,Aj 8 46 7,AH 9 6 8,Aa 4 9]
def ww:aK:=⟨10,(ash FR [] (ash FQ CB .ret)),[(.tmp 4)]⟩
attribute [push_cast] FR FQ
theorem Wr:asm 145=asn ww:=asq
def dU:LSO:=[Ac 4 0]
def dT:LSO:=[Aa 6 0,Ah 7 6,Ac 8 0]
def dS:LSO:=[Al 9 8 7]
def dR:LSO:=[Aa 10 8,Aa 5 10]
def dQ:LSO:=[Aa 11 1,Aa 12 0,Aa 13 5,Am 14 4 12 13,As 15 4 14,B0 16 11 15]
def dP:LSO:=[Aa 17 5,Aa 4 17]
def dO:LSO:=[Ai 18 8 1,Aa 8 18]
def dN:LSO:=[Ac 4 (-1)]
def dj:aK:=⟨19,(ash dU [] (.seq (ash dT CD (ask 0 (ash dS [] (.seq (asl 9 0) (.seq (.block 1 (ash dR C4 (ash dQ CB (asj 16 (.sreg dP C4))))) (.sreg dO C4)))))) (ash dN [] .ret))),[(.tmp 4)]⟩
attribute [push_cast] dU dT dS dR dQ dP dO dN
theorem iQ:asm 143=asn dj:=asq
def cM:LSO:=[Ac 6 0,Af 7]
def cL:LSO:=[Aa 12 0,Ah 13 12,Aa 8 13]
def cK:LSO:=[Aa 14 8,Ac 9 0,Aa 10 14]
def cJ:LSO:=[Aa 15 9,Aa 16 10,Al 17 15 16]
def cI:LSO:=[Aa 18 9,Aa 19 10,AU 20 18 19,o1 21 (.conv .u64 (tm 20)),o1 22 (.bin .shr (tm 21) (.av (.int .u64 1))),By 23 22,
 Aa 11 23]
def cH:LSO:=[Aa 24 2,Aa 25 0,Aa 26 11,Am 27 2 25 26,As 28 2 27,Aa 29 1,BI 30 24 28 29,AJ 31 30 0]
def cG:LSO:=[Aa 32 11,Ai 33 32 1,Aa 9 33]
def cF:LSO:=[Aa 34 11,Aa 10 34]
def cE:LSO:=[Aa 35 9,Aa 36 9,Aa 37 8,Al 38 36 37,Aa 39 38,.grp none 39 true
 [Ae 40 39 2,Ae 41 39 0,Ae 42 39 9,Bf 43 39 2 41 42,BJ 44 39 2 43,Ae 45 39 1,og 46 39 true (.callv (tm 40) [(tm 44),(tm 45)]),AO 47 39 46 0]
 48 (tm 47),Aa 6 35,Aa 7 48]
def aO:aK:=⟨49,(ash cM [] (ash cL C6 (ash cK CD (.seq (ask 0 (.seq (ash cJ C6 (asl 17 0)) (.block 1 (ash cI CC (ash cH CE (asi 31 (.sreg cG C6) (.sreg cF C4))))))) (ash cE CI .ret))))),[(.tmp 6),(.tmp 7)]⟩
attribute [push_cast] cM cL cK cJ cI cH cG cF cE
theorem cz:asm 158=asn aO:=asq
def dh:LSO:=[Ac 6 0,Af 7]
def df:LSO:=[Aa 12 0,Ah 13 12,Aa 8 13]
def de:LSO:=[Aa 14 8,Ac 9 0,Aa 10 14]
def dd:LSO:=[Aa 15 9,Aa 16 10,Al 17 15 16]
def dc:LSO:=[Aa 18 9,Aa 19 10,AU 20 18 19,o1 21 (.conv .u64 (tm 20)),o1 22 (.bin .shr (tm 21) (.av (.int .u64 1))),By 23 22,
 Aa 11 23]
def db:LSO:=[Aa 24 2,Aa 25 0,Aa 26 11,Am 27 1 25 26,Ab 28 1 27,Aa 29 1,BI 30 24 28 29,AJ 31 30 0]
def da:LSO:=[Aa 32 11,Ai 33 32 1,Aa 9 33]
def cZ:LSO:=[Aa 34 11,Aa 10 34]
def cY:LSO:=[Aa 35 9,Aa 36 9,Aa 37 8,Al 38 36 37,Aa 39 38,.grp none 39 true
 [Ae 40 39 2,Ae 41 39 0,Ae 42 39 9,Bf 43 39 1 41 42,A0 44 39 1 43,Ae 45 39 1,og 46 39 true (.callv (tm 40) [(tm 44),(tm 45)]),AO 47 39 46 0]
 48 (tm 47),Aa 6 35,Aa 7 48]
def bc:aK:=⟨49,(ash dh [] (ash df C6 (ash de CD (.seq (ask 0 (.seq (ash dd C6 (asl 17 0)) (.block 1 (ash dc CC (ash db CE (asi 31 (.sreg da C6) (.sreg cZ C4))))))) (ash cY CI .ret))))),[(.tmp 6),(.tmp 7)]⟩
attribute [push_cast] dh df de dd dc db da cZ cY
theorem cV:asm 165=asn bc:=asq
def gL:LSO:=[Ak 2]
def gK:LSO:=[Aa 3 0,o1 4 (.slnil false (tm 3))]
def gJ:LSO:=[Ak 2]
def gI:LSO:=[Cb 5,Aa 6 0,BK 7 5 6,Aa 2 7]
def cj:aK:=⟨8,(ash gL [] (.seq (ash gK C4 (asj 4 (.sreg gJ []))) (ash gI C7 .ret))),[(.tmp 2)]⟩
attribute [push_cast] gL gK gJ gI
theorem gl:aL Tryz.prog (λr i=>if r=3/\i=2 then 2 else 1) 47=some cj.raw:=asq
attribute [push_cast] jz pq i6 NY wy jN dj aO bc cj
set_option maxHeartbeats 8000000
set_option maxRecDepth 100000
def ahR(L:List Blk)(C:List AV)(n s:Nat)(v:AV):Prop:=(∃cap,v=.sl C n cap)\/∃i cp rest,v=.lsl i 0 n cp s/\L[i]?=some (.cells (C++rest))
def aoC(f:FuncId)(caps:List AV)(L:List Blk)(el:Nat->AV)(tg:AV)(n:Nat)(c:Nat->Int):Prop:=∀(h:Nat) (K:AV->List Blk->Prop),h<n->K (.int .i64 (c h)) L->aoX f ([el h,tg]++caps) L K
theorem aoj{n m:Nat}{A:AV}{c:Nat->Int}{L:List Blk}(R:n<=1100000)(s:C.length=n*2)(J:m<=n)(B:ahR L C n 2 v)(y:aoC f caps L (λh=>.agg ((C.drop (h*2)).take 2)) A n c)(E:∀h,h<n->(c h<0↔h<m)){K:aoY}(h:K (.tup [.int .i64 (m:Nat),.bool (decide (m<n)&&decide (c m=0))]) L):
  aoX 158 [v,A,.func f caps] L K:=by
 replace h:=hid h;replace y:=hid y;replace E:=hid E;rcases B with⟨cap,rfl⟩|⟨M,cp,rest,rfl,S⟩;refine aoW cz ?_;refine ak (λq T' L'=>∃a b:Nat,q=b-a/\a<=m/\m<=b/\b<=n/\T'=[(10,.int .i64 (b:Int)),(9,.int .i64 (a:Int)),(8,.int .i64 (n:Nat)),(0,.sl C n cap),(1,A),(2,.func f caps)]/\L=L') (CutS (b:=ao0 _)) ⟨0,n,rfl,ao2 _,J,ao0 _,rfl,rfl⟩ ?_;rintro _ _ L' ⟨a,b,rfl,t,x,G,rfl,e⟩;subst e;by_cases F:a<b;have g1:(a:Int)<(b:Int):=aso;obtain⟨z,H⟩:∃z,z=(a+b)/2:=⟨_,rfl⟩;have D:IntKind.i64.wrap ((a:Int)+b)=(a:Int)+b:=ae aso aso;have g3:IntKind.u64.wrap ((a:Int)+b)=(a:Int)+b:=ED aso aso;have g4:Int.fdiv ((a:Int)+b) (2^(min 1 IntKind.u64.bits))=(z:Int):=by have:(2:Int)^(min 1 IntKind.u64.bits)=2:=(by decide);rw[this,arY _ aso];omega
 have Q:IntKind.i64.wrap (z:Int)=z:=ae aso aso;have N:=aoV z aso;have r:a<=z/\z<b:=aso;have O:(z:Int)<(n:Int):=aso;have p:z<n:=aso;have d:=E.o z p;have I:z*2+2<=C.length:=aso;replace r:=hid r;replace d:=hid d;replace s:=hid s;clear H;refine wk ?_;refine y.o z _ p ?_;refine sk ?_;obtain⟨w,j⟩:=aoT (c z);rw[j]at d;simp only[j];by_cases i:w<0;have l:=d.o.1 i;clear d j;have u:=r.o;refine wk ?_;exact ast aso asr ⟨z+1,b,rfl,l,x,G,rfl,rfl⟩;have l:m<=z:=by rcases apt z m with e|e;exact absurd (d.o.2 e) i;exact e
 clear d j;have u:=r.o;refine wk ?_;exact ast aso asr ⟨a,z,rfl,t,l,aso,rfl,rfl⟩;obtain rfl:a=m:=aso;obtain rfl:b=a:=aso;have g1:¬(b:Int)<(b:Int):=aso;by_cases k:b<n;have D:(b:Int)<(n:Int):=aso;have g:=h.o;rw[decide_eq_true k,apy]at g;obtain⟨w,j⟩:=aoT (c b);rw[j]at g;replace g:=hid g;have I:b*2+2<=C.length:=aso;replace s:=hid s;have kk1:Hid (∀{K:aoY},K (.int .i64 w) L->aoX f (AV.agg ((C.drop (b*2)).take 2)::A::caps) L K):=hid λq=>y.o b _ k (by rw[j];exact q)
 refine wk ?_;exact aa g.o;have D:¬(b:Int)<(n:Int):=aso;have g:=h.o;rw[decide_eq_false k,apO]at g;replace g:=hid g;refine wk ?_;exact aa g.o;refine aoW cz ?_;refine ak (λq T' L'=>∃a b:Nat,q=b-a/\a<=m/\m<=b/\b<=n/\T'=[(10,.int .i64 (b:Int)),(9,.int .i64 (a:Int)),(8,.int .i64 (n:Nat)),(0,.lsl M 0 n cp 2),(1,A),(2,.func f caps)]/\L=L') (CutS (b:=ao0 _)) ⟨0,n,rfl,ao2 _,J,ao0 _,rfl,rfl⟩ ?_;rintro _ _ L' ⟨a,b,rfl,t,x,G,rfl,e⟩;subst e;by_cases F:a<b;have g1:(a:Int)<(b:Int):=aso;obtain⟨z,H⟩:∃z,z=(a+b)/2:=⟨_,rfl⟩;have D:IntKind.i64.wrap ((a:Int)+b)=(a:Int)+b:=ae aso aso;have g3:IntKind.u64.wrap ((a:Int)+b)=(a:Int)+b:=ED aso aso;have g4:Int.fdiv ((a:Int)+b) (2^(min 1 IntKind.u64.bits))=(z:Int):=by have:(2:Int)^(min 1 IntKind.u64.bits)=2:=(by decide);rw[this,arY _ aso];omega
 have Q:IntKind.i64.wrap (z:Int)=z:=ae aso aso;have N:=aoV z aso;have r:a<=z/\z<b:=aso;have O:(z:Int)<(n:Int):=aso;have p:z<n:=aso;have d:=E.o z p;have P:((C++rest).drop (z*2)).take 2=(C.drop (z*2)).take 2:=by rw[List.drop_append_of_le_length aso,ase (by simp;omega)]
 have I:z*2+2<=C.length+rest.length:=aso;replace r:=hid r;replace d:=hid d;replace s:=hid s;clear H;refine wk ?_;refine y.o z _ p ?_;refine sk ?_;obtain⟨w,j⟩:=aoT (c z);rw[j]at d;simp only[j];by_cases i:w<0;have l:=d.o.1 i;clear d j;have u:=r.o;refine wk ?_;exact ast aso asr ⟨z+1,b,rfl,l,x,G,rfl,rfl⟩;have l:m<=z:=by rcases apt z m with e|e;exact absurd (d.o.2 e) i;exact e
 clear d j;have u:=r.o;refine wk ?_;exact ast aso asr ⟨a,z,rfl,t,l,aso,rfl,rfl⟩;obtain rfl:a=m:=aso;obtain rfl:b=a:=aso;have g1:¬(b:Int)<(b:Int):=aso;by_cases k:b<n;have D:(b:Int)<(n:Int):=aso;have g:=h.o;rw[decide_eq_true k,apy]at g;obtain⟨w,j⟩:=aoT (c b);rw[j]at g;replace g:=hid g;have P:((C++rest).drop (b*2)).take 2=(C.drop (b*2)).take 2:=by rw[List.drop_append_of_le_length aso,ase (by simp;omega)]
 have I:b*2+2<=C.length+rest.length:=aso;replace s:=hid s;have kk1:Hid (∀{K:aoY},K (.int .i64 w) L->aoX f (AV.agg ((C.drop (b*2)).take 2)::A::caps) L K):=hid λq=>y.o b _ k (by rw[j];exact q)
 refine wk ?_;exact aa g.o;have D:¬(b:Int)<(n:Int):=aso;have g:=h.o;rw[decide_eq_false k,apO]at g;replace g:=hid g;refine wk ?_;exact aa g.o
theorem aoi{n m:Nat}{A:AV}{c:Nat->Int}{L:List Blk}(R:n<=1100000)(s:C.length=n*1)(J:m<=n)(B:ahR L C n 1 v)(y:aoC f caps L (λh=>C.getD h .undef) A n c)(E:∀h,h<n->(c h<0↔h<m)){K:aoY}(h:K (.tup [.int .i64 (m:Nat),.bool (decide (m<n)&&decide (c m=0))]) L):
  aoX 165 [v,A,.func f caps] L K:=by
 replace h:=hid h;replace y:=hid y;replace E:=hid E;rcases B with⟨cap,rfl⟩|⟨M,cp,rest,rfl,S⟩;refine aoW cV ?_;refine ak (λq T' L'=>∃a b:Nat,q=b-a/\a<=m/\m<=b/\b<=n/\T'=[(10,.int .i64 (b:Int)),(9,.int .i64 (a:Int)),(8,.int .i64 (n:Nat)),(0,.sl C n cap),(1,A),(2,.func f caps)]/\L=L') (CutS (b:=ao0 _)) ⟨0,n,rfl,ao2 _,J,ao0 _,rfl,rfl⟩ ?_;rintro _ _ L' ⟨a,b,rfl,t,x,G,rfl,e⟩;subst e;by_cases F:a<b;have g1:(a:Int)<(b:Int):=aso;obtain⟨z,H⟩:∃z,z=(a+b)/2:=⟨_,rfl⟩;have D:IntKind.i64.wrap ((a:Int)+b)=(a:Int)+b:=ae aso aso;have g3:IntKind.u64.wrap ((a:Int)+b)=(a:Int)+b:=ED aso aso;have g4:Int.fdiv ((a:Int)+b) (2^(min 1 IntKind.u64.bits))=(z:Int):=by have:(2:Int)^(min 1 IntKind.u64.bits)=2:=(by decide);rw[this,arY _ aso];omega
 have Q:IntKind.i64.wrap (z:Int)=z:=ae aso aso;have N:=aoV z aso;have r:a<=z/\z<b:=aso;have O:(z:Int)<(n:Int):=aso;have p:z<n:=aso;have d:=E.o z p;have I:z<C.length:=aso;replace r:=hid r;replace d:=hid d;replace s:=hid s;clear H;refine wk ?_;refine y.o z _ p ?_;refine sk ?_;obtain⟨w,j⟩:=aoT (c z);rw[j]at d;simp only[j];by_cases i:w<0;have l:=d.o.1 i;clear d j;have u:=r.o;refine wk ?_;exact ast aso asr ⟨z+1,b,rfl,l,x,G,rfl,rfl⟩;have l:m<=z:=by rcases apt z m with e|e;exact absurd (d.o.2 e) i;exact e
 clear d j;have u:=r.o;refine wk ?_;exact ast aso asr ⟨a,z,rfl,t,l,aso,rfl,rfl⟩;obtain rfl:a=m:=aso;obtain rfl:b=a:=aso;have g1:¬(b:Int)<(b:Int):=aso;by_cases k:b<n;have D:(b:Int)<(n:Int):=aso;have g:=h.o;rw[decide_eq_true k,apy]at g;obtain⟨w,j⟩:=aoT (c b);rw[j]at g;replace g:=hid g;have I:b<C.length:=aso;replace s:=hid s;have kk1:Hid (∀{K:aoY},K (.int .i64 w) L->aoX f (C.getD b .undef::A::caps) L K):=hid λq=>y.o b _ k (by rw[j];exact q)
 refine wk ?_;exact aa g.o;have D:¬(b:Int)<(n:Int):=aso;have g:=h.o;rw[decide_eq_false k,apO]at g;replace g:=hid g;refine wk ?_;exact aa g.o;refine aoW cV ?_;refine ak (λq T' L'=>∃a b:Nat,q=b-a/\a<=m/\m<=b/\b<=n/\T'=[(10,.int .i64 (b:Int)),(9,.int .i64 (a:Int)),(8,.int .i64 (n:Nat)),(0,.lsl M 0 n cp 1),(1,A),(2,.func f caps)]/\L=L') (CutS (b:=ao0 _)) ⟨0,n,rfl,ao2 _,J,ao0 _,rfl,rfl⟩ ?_;rintro _ _ L' ⟨a,b,rfl,t,x,G,rfl,e⟩;subst e;by_cases F:a<b;have g1:(a:Int)<(b:Int):=aso;obtain⟨z,H⟩:∃z,z=(a+b)/2:=⟨_,rfl⟩;have D:IntKind.i64.wrap ((a:Int)+b)=(a:Int)+b:=ae aso aso;have g3:IntKind.u64.wrap ((a:Int)+b)=(a:Int)+b:=ED aso aso;have g4:Int.fdiv ((a:Int)+b) (2^(min 1 IntKind.u64.bits))=(z:Int):=by have:(2:Int)^(min 1 IntKind.u64.bits)=2:=(by decide);rw[this,arY _ aso];omega
 have Q:IntKind.i64.wrap (z:Int)=z:=ae aso aso;have N:=aoV z aso;have r:a<=z/\z<b:=aso;have O:(z:Int)<(n:Int):=aso;have p:z<n:=aso;have d:=E.o z p;have P:(C++rest).getD z .undef=C.getD z .undef:=by rw[apo,ao4 aso];rfl
 have I:z<C.length+rest.length:=aso;replace r:=hid r;replace d:=hid d;replace s:=hid s;clear H;refine wk ?_;refine y.o z _ p ?_;refine sk ?_;obtain⟨w,j⟩:=aoT (c z);rw[j]at d;simp only[j];by_cases i:w<0;have l:=d.o.1 i;clear d j;have u:=r.o;refine wk ?_;exact ast aso asr ⟨z+1,b,rfl,l,x,G,rfl,rfl⟩;have l:m<=z:=by rcases apt z m with e|e;exact absurd (d.o.2 e) i;exact e
 clear d j;have u:=r.o;refine wk ?_;exact ast aso asr ⟨a,z,rfl,t,l,aso,rfl,rfl⟩;obtain rfl:a=m:=aso;obtain rfl:b=a:=aso;have g1:¬(b:Int)<(b:Int):=aso;by_cases k:b<n;have D:(b:Int)<(n:Int):=aso;have g:=h.o;rw[decide_eq_true k,apy]at g;obtain⟨w,j⟩:=aoT (c b);rw[j]at g;replace g:=hid g;have P:(C++rest).getD b .undef=C.getD b .undef:=by rw[apo,ao4 aso];rfl
 have I:b<C.length+rest.length:=aso;replace s:=hid s;have kk1:Hid (∀{K:aoY},K (.int .i64 w) L->aoX f (C.getD b .undef::A::caps) L K):=hid λq=>y.o b _ k (by rw[j];exact q)
 refine wk ?_;exact aa g.o;have D:¬(b:Int)<(n:Int):=aso;have g:=h.o;rw[decide_eq_false k,apO]at g;replace g:=hid g;refine wk ?_;exact aa g.o
variable {L:List Blk}{K:aoY}
theorem ahH(h:K (.sl [] 0 (some 0)) L):aoX 47 [.sl [] 0 cap] L K:=by
 refine ab gl (by simp[cj]) ?_;simp only[cj,ag]
 repeat' first
  |refine bH ?_
  | (first|refine bv asq ?_|refine aP asq ?_|refine aS ?_|refine cT ?_|refine bJ (fun _=>?_)|refine aH ?_|refine bz ?_)
    refine sm ?_
  | (first|refine bp asq ?_|refine bm ?_|refine aR ?_|refine bw ?_|refine bP (aG ?_))
    refine sl ?_
  |exact bL
  |first|apply bM|apply bq|apply bN|apply br|apply bO|apply bu
  |refine aV ?_
  |refine aQ ?_
  |first|refine aT rfl ?_|refine aU rfl ?_|refine aB rfl ?_ ?_|refine aX rfl (λ_=>?_) (λ_=>?_)|refine aW rfl (λ_=>?_) (λ_=>?_)
  |((first|refine aA (λ_=>?_) (λ_=>?_)|refine aE (λ_=>?_) (λ_=>?_))<;>try refine sm ?_)
  |refine And.intro trivial ?_
  |refine And.intro aso ?_
  |refine be rfl (λ_=>?_) (λ_=>?_)
  |refine And.intro ?_ ?_
 all_goals (first|refine ac rfl (Kto h ?_)|refine aa (Kto h ?_)|refine ac (by simp only[AV.refs,AV.refsL, *];rfl) (Kto h ?_)|refine aY (ac rfl (Kto h ?_))|(trace_state;fail))
 all_goals (first|(simp[*];done)|(simp[*];omega)|(simp[*];intros;omega)|(simp_all[Hid,Hid];done)|(simp_all[Hid,Hid];omega))
theorem aj3{xs:List (List UInt8)}(b:xs.length≠0)(a:xs.length<=1100000)(h:K (.lsl L.length 0 xs.length none 1) (L++[.cells (xs.map AV.str)])):
  aoX 47 [.sl (xs.map AV.str) xs.length cap] L K:=by
 have c:=ai1 xs;refine aoW gl ?_;refine amc L.length (.cells (xs.map AV.str)) rfl (ao0 _) asp (by simp[AV.refs]) (i8 _ _) ?_;simpa[AV.ren]using h
abbrev bI(s:List UInt8):Prop:=(s.length:Int)<=140737488351232
theorem ad5(a b:List UInt8):Lib.compareBytes a b<0↔a<b:=by rw[acs];by_cases h:a<b;simp[h];by_cases c:b<a<;>simp[h,c]
theorem abw(a b:List UInt8):Lib.compareBytes a b=0↔a=b:=by rw[acs];by_cases h:a<b;simp only[h,if_true];exact⟨λe=>aso,λe=>by subst e;exact absurd h (aqH _)⟩;by_cases c:b<a;simp only[h,c,if_true,if_false];exact⟨λe=>aso,λe=>by subst e;exact absurd c (aqH _)⟩;simp only[h,c,if_false,true_iff];exact arZ (aq8.1 c) (aq8.1 h)
def amt(w:AV):Prop:=(∃l n cap,w=.sl l n cap)\/∃i off n cp s,w=.lsl i off n cp s
theorem aiU{x:List UInt8}{w:AV}(a:bI x)(b:amt w)(h:K (.int .i64 (Lib.compareBytes (aj x) n)) L):
  aoX 159 [.agg [.str x,w],.str n] L K:=by
 replace h:=hid h;rcases b with⟨l,m,cap,rfl⟩|⟨i,off,m,cp,s,rfl⟩;refine ab tM (by simp[iG]) ?_;simp only[iG,ag];have kk1:=@asv _ _ _ _ (jB a);have kk2:=@hid _ @rW;refine wk ?_;exact ac rfl h.o;refine ab tM (by simp[iG]) ?_;simp only[iG,ag];have kk1:=@asv _ _ _ _ (jB a);have kk2:=@hid _ @rW;refine wk ?_;exact ac rfl h.o
def aoE(l:List Atr)(C:List AV):Prop:=C.length=l.length*2/\∀h:Nat,h<l.length->∃w,amt w/\(C.drop (h*2)).take 2=[.str (l.getD h ([],[])).1,w]
def acj{α:Type}(key:α->List UInt8)(l:List α)(k:List UInt8):Bool:=l.any λa=>decide (key a=k)
theorem ZC{α:Type}{key:α->List UInt8}{l:List α}{k:List UInt8}(b:mS key l){d:α}:acj key l k=(decide (je key l k<l.length)&&decide (key (l.getD (je key l k) d)=k)):=by rw[acj,ahG b];by_cases a:je key l k<l.length;rw[ao8 a,decide_eq_true a,apy];simp[a];rw[aqM aso,decide_eq_false a];rfl
theorem af4{l:List Atr}{L:List Blk}(t:l.length<=1100000)(p:aoE l C)(f:ahR L C l.length 2 v)(i:mS gO l)(j:bI n)(u:∀a∈l,bI a.1){K:aoY}(h:K (.tup [.int .i64 (je gO l (aj n):Nat),.bool (acj gO l (aj n))]) L):
  aoX 103 [v,.str n] L K:=by
 have b:∀{K:aoY},K (.tup [.int .i64 (je gO l (aj n):Nat),.bool (acj gO l (aj n))]) L->aoX 158 [v,.str (aj n),.func 159 []] L K:=λ{K} q=>by refine aoj (m:=je gO l (aj n)) (c:=λh=>Lib.compareBytes (gO (l.getD h ([],[]))) (aj n)) t p.1 (acr _ _ _) f (λh K g r=>?_) (λh g=>?_) ?_;obtain⟨w,s,e⟩:=p.2 h g;simp only[e];refine aiU (u _ ?_) s r;simp[g];simp only[ad5];have:=afr (key:=gO) (k:=aj n) i h g;simpa[g]using this;have:=ZC (key:=gO) (k:=aj n) i (d:=([],[]));rw[this]at q;simpa only[abw]using q
 replace b:=@hid _ @b;replace h:=hid h;rcases f with⟨cap,rfl⟩|⟨x,cp,rest,rfl,y⟩;refine ab Ew (by simp[jA]) ?_;simp only[jA,ag];have kk2:=@hid _ @b.o;have kk1:=@asv _ _ _ _ (jB j);refine wk ?_;exact aa h.o;refine ab Ew (by simp[jA]) ?_;simp only[jA,ag];have kk2:=@hid _ @b.o;have kk1:=@asv _ _ _ _ (jB j);refine wk ?_;exact aa h.o
abbrev tyC(ty:Typ):List AV:=[.str ty.1,.int .i64 ty.2.1,.bool ty.2.2.1,.bool ty.2.2.2]
theorem ahB{x:List UInt8}{p:Nat}{L:List Blk}(a:L[p]?=some (.cells (tyC ty))){K:aoY}(h:K (.int .i64 (Lib.compareBytes (gm ty.2.1 x) n)) L):
  aoX 166 [.str x,.str n,.ptr p 0] L K:=by
 unfold gm at h;refine aoW Sy ?_;refine iS ?_;rcases hm:dl ty.2.1 x with _|m
 all_goals rw[hm]at h
 replace h:Hid (K (.int .i64 (Lib.compareBytes [] n)) L):=hid h;simp only[kg];refine sk ?_;have kk1:=@hid _ @rW;refine wk ?_;exact aa h.o;replace h:Hid (K (.int .i64 (Lib.compareBytes m n)) L):=hid h;simp only[kg];refine sk ?_;have kk1:=@hid _ @rW;refine wk ?_;exact aa h.o
def akI(syn:Int)(l:List (List UInt8))(v:List UInt8):AV:=match dl syn v with
 |none=>.tup [.int .i64 0,.bool false,.bool false]
 |some n=>.tup [.int .i64 (je (gm syn) l n:Nat),.bool (acj (gm syn) l n),.bool true]
theorem ajW{l:List (List UInt8)}{w:AV}{v:List UInt8}{L:List Blk}(s:l.length<=1100000)(b:ahR L (l.map AV.str) l.length 1 w)(i:mS (gm ty.2.1) l){K:aoY}(h:K (akI ty.2.1 l v) L):
  aoX 111 [.agg (tyC ty),w,.str v] L K:=by
 have a:∀(X:List Blk) (n:List UInt8){K:aoY},K (.tup [.int .i64 (je (gm ty.2.1) l n:Nat),.bool (acj (gm ty.2.1) l n)]) (L++(.cells (tyC ty)::X))->aoX 165 [w,.str n,.func 166 [.ptr L.length 0]] (L++(.cells (tyC ty)::X)) K:=λX n {K} q=>by
  have f:ahR (L++(.cells (tyC ty)::X)) (l.map AV.str) l.length 1 w:=by rcases b with⟨cap,rfl⟩|⟨j,cp,rest,rfl,p⟩;exact .inl ⟨cap,rfl⟩;exact .inr ⟨j,cp,rest,rfl,aoU p⟩
  refine aoi (m:=je (gm ty.2.1) l n) (c:=λh=>Lib.compareBytes (gm ty.2.1 (l.getD h [])) n) s asp (acr _ _ _) f (λh K g r=>?_) (λh g=>?_) ?_;have e:(l.map AV.str).getD h .undef=.str (l.getD h []):=(by simp[g]);simp only[e];exact ahB (by rw[ape (ao0 _),aqq];rfl) r;simp only[ad5];have:=afr (key:=gm ty.2.1) (k:=n) i h g;simpa[g]using this;have:=ZC (key:=gm ty.2.1) (k:=n) i (d:=[]);rw[this]at q;simpa only[abw]using q
 replace a:=@hid _ @a;unfold akI at h;rcases b with⟨cap,rfl⟩|⟨j,cp,rest,rfl,p⟩;refine aoW Ev ?_;refine iS ?_;rcases hn:dl ty.2.1 v with _|n;rw[hn]at h;simp only at h;replace h:=hid h;simp only[kg];refine asw ?_;exact ac rfl h.o;rw[hn]at h;simp only at h;replace h:=hid h;simp only[kg];refine asw ?_;refine a.o [] n ?_;refine asw ?_;exact ac rfl h.o;refine aoW Ev ?_;refine iS ?_;rcases hn:dl ty.2.1 v with _|n;rw[hn]at h;simp only at h;replace h:=hid h;simp only[kg];refine asw ?_;exact ac rfl h.o;rw[hn]at h;simp only at h;replace h:=hid h;simp only[kg];refine asw ?_;refine a.o [] n ?_;refine asw ?_;exact ac rfl h.o
def cU(ts:List Typ):List AV:=ts.flatMap tyC
theorem SX(ts:List Typ):(cU ts).length=ts.length*4:=by
 induction ts with
 |nil=>rfl
 |cons a l ih=>simp only[cU,apD,apd,tyC,apb,apJ]at ih⊢;omega
abbrev Ef:Typ:=([],0,false,false)
theorem N9:∀{ts:List Typ}{k:Nat},k<ts.length->((cU ts).drop (k*4)).take 4=tyC (ts.getD k Ef)
 |a::l,0,_=>rfl
 |a::l,k+1,h=>by have b:=@N9 l k (by simpa using h);rw[show(k+1)*4=k*4+1+1+1+1 by omega];simpa[cU,tyC]using b
theorem amY{a b:List UInt8}(c:bI a)(d:bI b)(h:K (.bool (decide (aj a=aj b))) L):aoX 145 [.str a,.str b] L K:=by replace h:=hid h;refine ab Wr (by simp[ww]) ?_;simp only[ww,ag];have kk1:=@asv _ _ _ _ (jB c);have kk2:=@asv _ _ _ _ (jB d);refine wk ?_;exact aa h.o
theorem alv{p:Nat}(b:bI ty.1)(d:bI n){L:List Blk}(a:L[p]?=some (.cells [.str n])){K:aoY}(h:K (.bool (decide (aj ty.1=aj n))) L):
  aoX 144 [.agg (tyC ty),.ptr p 0] L K:=by
 replace h:=hid h;have c:∀X:List Blk,(L++X)[p]?=some (.cells [.str n]):=λX=>by rw[ao4 (aoZ.1 a).1];exact a
 refine ab Et (by simp[iW]) ?_;simp only[iW,ag];have kk1:=@asv _ _ _ _ (amY b d);refine wk ?_;exact ac rfl h.o
theorem am4{q:Typ->Bool}{L:List Blk}(w:ts.length<=1100000)(l:∀(ty:Typ) (K:AV->List Blk->Prop),ty∈ts->K (.bool (q ty)) L->aoX f (.agg (tyC ty)::caps) L K){K:aoY}(r:(∀ty∈ts,q ty=false)->K (.int .i64 (-1)) L)(p:∀k:Nat,k<ts.length->(∀j,j<k->q (ts.getD j Ef)=false)->q (ts.getD k Ef)=true->K (.int .i64 k) L):
  aoX 143 [.sl (cU ts) ts.length cap,.func f caps] L K:=by
 replace l:=hid l;replace r:=hid r;replace p:=hid p;refine aoW iQ ?_;refine ak (λn T' L'=>∃k:Nat,n=ts.length-k/\k<=ts.length/\T'=[(8,.int .i64 (k:Int)),(7,.int .i64 ts.length),(0,.sl (cU ts) ts.length cap),(1,.func f caps)]/\L=L' /\
  ∀j,j<k->q (ts.getD j Ef)=false) (CutS (b:=ao0 _)) ⟨0,rfl,ao2 _,rfl,rfl,asp⟩ ?_
 rintro _ _ L' ⟨k,rfl,u,rfl,e,i⟩;subst e;replace i:=hid i;by_cases g:k<ts.length;have g1:(k:Int)<(ts.length:Int):=aso;have x:=aoV k aso;have v:k*4+4<=(cU ts).length:=by rw[SX];omega
 have m:=N9 g;obtain⟨ty,c⟩:=aoT (ts.getD k Ef);have t:ty∈ts:=by rw[<- c];simp[g]
 rw[c]at m;replace c:=hid c;rcases d:q ty with _|_;have kk1:Hid (∀{K:aoY},K (.bool false) L->aoX f (.agg (tyC ty)::caps) L K):=hid λa=>l.o ty _ t (by rw[d];exact a)
 replace d:=hid d;simp only[tyC]at kk1 m;refine wk ?_;refine ast aso asr ⟨k+1,rfl,g,rfl,rfl,λj s=>?_⟩;rcases apt j k with h|h;exact i.o j h;have:j=k:=aso;subst this;rw[c.o];exact d.o;have kk1:Hid (∀{K:aoY},K (.bool true) L->aoX f (.agg (tyC ty)::caps) L K):=hid λa=>l.o ty _ t (by rw[d];exact a)
 replace d:=hid d;simp only[tyC]at kk1 m;refine wk ?_;exact aa (p.o k g i.o (by rw[c.o];exact d.o));have g1:¬(k:Int)<(ts.length:Int):=aso;refine wk ?_;refine aa (r.o λty c=>?_);obtain⟨j,s,e⟩:=apV.1 c;have:=i.o j aso;simpa[s,e]using this
def tB(o:Option Typ):AV:=.tup [.agg (tyC (o.getD Ef)),.bool o.isSome]
theorem Sj{α:Type}{q:α->Bool}{d:α}:∀{l:List α}{k:Nat},k<l.length->(∀j,j<k->q (l.getD j d)=false)->q (l.getD k d)=true->l.find? q=some (l.getD k d)
 |a::t,0,_,_,h=>by simp only[aqR]at h⊢;rw[aq0,h]
 |a::t,k+1,hk,hp,h=>by have b:=hp 0 aso;simp only[aqR]at b;rw[aq0,b];simp only[ark]at h⊢;exact Sj (by simpa using hk) (λj c=>by simpa using hp (j+1) aso) h
theorem amZ{b:Option Nat}{c2:List AV}{u:Nat}{a:Option Nat}(v:ts.length<=1100000)(i:∀t∈ts,bI t.1)(p:bI n)(h:K (tB (gX ts n)) L):
  aoX 95 [.agg [.sl (cU ts) ts.length b,.sl c2 u a],.str n] L K:=by
 replace h:=hid h;refine aoW JN ?_;refine am4 (q:=λt=>decide (aj t.1=aj n)) v (λty K s f=>?_) (λg=>?_) (λk f m j=>?_);exact alv (i ty s) p asp f;have e:gX ts n=none:=aqB.2 λt r=>by simpa using g t r
 rw[e]at h;simp only[tB,arf,arO,tyC]at h;refine asw ?_;exact ac rfl h.o;have e:gX ts n=some (ts.getD k Ef):=Sj (d:=Ef) f m j;have w:k*4+4<=(cU ts).length:=by rw[SX];omega
 have l:=N9 f;have g1:¬(k:Int)<0:=aso;have x:(k:Int)<(ts.length:Int):=aso;obtain⟨ty,c⟩:=aoT (ts.getD k Ef);rw[c]at e l;rw[e]at h;simp only[tB,apT,arU,tyC]at h l;clear m j c e;refine asw ?_;exact ac rfl h.o
theorem acm{c:Option Nat}{c2:List AV}{i:Nat}{a:Option Nat}(g:ts.length<=1100000)(e:∀t∈ts,bI t.1)(j:bI n)(h:K (tB (gX ts n)) L):
  aoX 45 [.agg [.sl (cU ts) ts.length c,.sl c2 i a],.str n] L K:=by
 unfold tB at h;refine aoW Ws ?_;refine amZ g e j ?_;unfold tB;obtain⟨ty,d⟩:=aoT ((gX ts n).getD Ef);obtain⟨b,f⟩:=aoT ((gX ts n).isSome);rw[d,f]at h⊢;replace h:=hid h;refine asw ?_;exact ac rfl h.o
inductive Nd where
 |mk (tag:Int) (data:List UInt8) (kids:List Nd)
def Nd.tag:Nd->Int
 |.mk t _ _=>t
def Nd.data:Nd->List UInt8
 |.mk _ d _=>d
def Nd.kids:Nd->List Nd
 |.mk _ _ k=>k
abbrev aoM:Nd:=.mk 0 [] []
instance:Inhabited Nd:=⟨aoM⟩
def b8(n:Nat):UInt8:=UInt8.ofNat n
structure Upd where
 kind:Int
 dn:List Rdn
 tw:List Rdn
 attrs:List Atr
abbrev ai6:Upd:=⟨0,[],[],[]⟩
abbrev dnA(d:List Rdn):AV:=.sl (d.map am) d.length none
abbrev rH(u:Upd):List AV:=[.int .i64 u.kind,dnA u.dn,dnA u.tw,.sl (aJ u.attrs) u.attrs.length none]
def dnB(d:List Rdn):Prop:=d.length<=1100000/\∀r∈d,r.length<=1100000
end Go.Proofs.YtdnfjhflkkpokaaGreatDoor.Av
namespace Go.Proofs
open Go.Shelf
def Tryz.growD_ren:Go.Shelf.Ren:=⟨λ|4=>157|n=>n,λ|22=>24|25=>99|3=>3|4=>4|9=>9|20=>20|0=>0|n=>n,λ|n=>n⟩
theorem Tryz.growD:Go.Proofs.Lays8.n4 Tryz.prog Tryz.growD_ren:={
 mixed:=by kernel_rfl
 f4:=⟨Tryz.f157.name,by decide,Tryz.func157.trans (congrArg some (by kernel_rfl))⟩
 t0:=Tryz.underlying0
 a0:=Tryz.isAgg0
 z0:=Tryz.sizeOf0
 v0:=Tryz.zeroValue0
 t3:=Tryz.underlying3
 a3:=Tryz.isAgg3
 z3:=Tryz.sizeOf3
 v3:=Tryz.zeroValue3
 t4:=Tryz.underlying4
 a4:=Tryz.isAgg4
 z4:=Tryz.sizeOf4
 v4:=Tryz.zeroValue4
 t9:=Tryz.underlying9
 a9:=Tryz.isAgg9
 z9:=Tryz.sizeOf9
 v9:=Tryz.zeroValue9
 t20:=Tryz.underlying20
 a20:=Tryz.isAgg20
 z20:=Tryz.sizeOf20
 v20:=Tryz.zeroValue20
 t22:=Tryz.underlying24
 a22:=Tryz.isAgg24
 z22:=Tryz.sizeOf24
 v22:=Tryz.zeroValue24}
end Go.Proofs
set_option maxRecDepth 100000
namespace Go.Proofs.YtdnfjhflkkpokaaGreatDoor.Av
open Go
def Xp:LSO:=[Ak 4]
def Xo:LSO:=[Ak 5]
def Xn:LSO:=[Aa 8 1,Aa 9 0,o1 10 (.bslice false 1 2 [(.sl [] 0 (some 0)),(.sl [] 0 (some 0))] [(0,(1,(tm 8))),(1,(1,(tm 9)))]),Aj 11 102 10,Ah 12 11,Ac 13 0]
def Xm:LSO:=[Al 14 13 12]
def Xl:LSO:=[Am 15 1 11 13,Ab 16 1 15,Aa 7 16]
def Xk:LSO:=[Aa 17 5,Aa 18 7,o1 19 (.app 0 2 32 [(.str []),(.str [])] (.av (.sl [] 0 (some 0))) (tm 18)),Bl 20 19,Bh 21 17 20,Aa 5 21]
def Xj:LSO:=[Ai 22 13 1,Aa 13 22]
def Xi:LSO:=[Aa 23 5,Aa 4 23]
def Ey:aK:=⟨24,(ash Xp [] (ash Xo [] (.seq (ash Xn CU (ask 0 (ash Xm [] (.seq (asl 14 0) (.seq (.block 1 (ash Xl C6 (.sreg Xk CB))) (.sreg Xj C4)))))) (ash Xi C4 .ret)))),[(.tmp 4)]⟩
attribute [push_cast] Xp Xo Xn Xm Xl Xk Xj Xi
theorem VX:aL Tryz.prog (λr i=>if r=5/\i=2 then 0 else 1) 59=some Ey.raw:=asq
def fO:LSO:=[Ak 2]
def fN:LSO:=[Ac 3 0]
def fM:LSO:=[Aa 9 0,Ah 10 9,Ac 11 0]
def fL:LSO:=[Al 12 11 10]
def fK:LSO:=[Am 13 1 9 11,Ab 14 1 13,Aa 5 14]
def fJ:LSO:=[Aa 15 3,Aa 16 5,Ah 17 16,AU 18 15 17,Aa 3 18]
def fI:LSO:=[Aa 19 3,AJ 20 19 0]
def fH:LSO:=[o1 21 (.mkif 9 (.av (.str [108,101,110,32,111,117,116,32,111,102,32,114,97,110,103,101]))),
 .op ⟨none,.bad,none⟩]
def fG:LSO:=[Ai 22 11 1,Aa 11 22]
def fF:LSO:=[Aa 23 3,o1 24 (.call 157 [(.av (.sl [] 0 (some 0))),(tm 23)]),Aa 6 24]
def fz:LSO:=[Aa 25 0,Ah 26 25,Ac 27 0]
def fy:LSO:=[Al 28 27 26]
def fu:LSO:=[Am 29 1 25 27,Ab 30 1 29,Aa 8 30]
def ft:LSO:=[Aa 31 6,Aa 32 8,Bh 33 31 32,Aa 6 33]
def fo:LSO:=[Ai 34 27 1,Aa 27 34]
def fm:LSO:=[Aa 35 6,Aa 2 35]
def dJ:aK:=⟨36,(ash fO [] (ash fN [] (.seq (ash fM [] (ask 0 (ash fL [] (.seq (asl 12 0) (.seq (.block 1 (ash fK C6 (ash fJ CA (ash fI C4 (asi 20 (.sreg fH [false]) .skip))))) (.sreg fG C4)))))) (ash fF C6 (.seq (ash fz [] (ask 2 (ash fy [] (.seq (asl 28 2) (.seq (.block 3 (ash fu C6 (.sreg ft C7))) (.sreg fo C4)))))) (ash fm C4 .ret)))))),[(.tmp 2)]⟩
attribute [push_cast] fO fN fM fL fK fJ fI fH fG fF fz fy fu ft fo fm
theorem ko:asm 102=asn dJ:=asq
def TG:LSO:=[AT 2,Ac 3 0]
def TF:LSO:=[Aa 7 0,Aj 8 36 7,Aa 6 8,Ao 9 6,Aq 10 6,Aa 4 9,Aa 5 10]
def TE:LSO:=[Aa 11 5,AB 12 11 0]
def TD:LSO:=[Aa 13 5,AT 2,Aa 3 13]
def TC:LSO:=[Aa 14 0,Ah 15 14,An 16 15 0]
def TB:LSO:=[AT 2,Ac 3 2]
def TA:LSO:=[Aa 17 0,BW 18 59 17,
 .op ⟨(some 19),.mkmap,none⟩,
 .op ⟨(some 20),.mkmap,none⟩,o1 21 (.build [(.sl [] 0 (some 0)),.nilmap,.nilmap,(.int .i64 0)] [(0,(1,(tm 18))),(1,(1,(tm 19))),(2,(1,(tm 20))),(3,(1,(iv 0)))]),Ay 22 21,
 o1 23 (.build [.nilptr] [(0,(1,(tm 22)))]),Ay 24 23,Aa 2 24,Ac 3 0]
def jL:aK:=⟨25,(ash TG [] (.seq (ash TF CC (ash TE C4 (asj 12 (.sreg TD CD)))) (.seq (ash TC C6 (asj 16 (.sreg TB []))) (ash TA Dl .ret)))),[(.tmp 2),(.tmp 3)]⟩
attribute [push_cast] TG TF TE TD TC TB TA
theorem wq:asm 30=asn jL:=asq
def xc:LSO:=[Ay 3 1,Ac 4 0]
def xb:LSO:=[Aa 17 0,B5 18 17]
def xa:LSO:=[Ac 4 1]
def w9:LSO:=[Aa 19 0,Au 20 19,Ad 21 0 20,Ab 22 1 21,As 23 4 3,Ar 24 78 22 23,Aa 5 24]
def w8:LSO:=[Aa 25 5,AB 26 25 0]
def w7:LSO:=[Aa 27 5,Aa 4 27]
def wZ:LSO:=[Aa 28 0,Au 29 28,Ad 30 0 29,Ab 31 1 30,Ad 32 1 3,Ab 33 1 32,Ar 34 24 31 33,Aa 6 34]
def wY:LSO:=[Ad 35 0 3,Ab 36 1 35]
def wX:LSO:=[An 38 36 1,Aa 37 38]
def wW:LSO:=[Aa 39 0,Au 40 39,Ad 41 0 40,Ab 42 1 41,Au 43 42,Ad 44 3 43,Ab 45 1 44,Ai 46 45 1,Au 47 42,Ad 48 3 47,Ap 1 48 46]
def uI:List (aw×Kd):=
 [AD 49 0,AP 50 49 0 1,A9 51 0 50,AA 52 1 51 0 1,AP 53 52 0 1,A9 54 1 53,AA 55 1 54 0 1,AD 56 0,AP 57 56 0 1,A9 58 0 57,AA 59 1 58 0 1,AP 60 59 0 1,A9 61 3 60,AA 62 1 61 0 1,
 A9 63 3 3,AA 64 1 63 0 0,Bd 65 60 64 0 0,od 66 (.build [(.sl [] 0 (some 0)),(.sl [] 0 (some 0)),(.sl [] 0 (some 0)),(.int .i64 0)] [(2,(1,(tm 65)))]) .pure,
 od 67 (.box (tm 66)) .eff]
def sL:List aw :=
 [⟨none,(.mset .int (tm 55) (tm 62) (tm 67)),none⟩]
def uH:List (aw×Kd):=
 [AD 68 0,AD 69 0,AP 70 69 0 0,A9 71 0 70,AA 72 1 71 0 0,AP 73 72 0 0,A9 74 3 73,AA 75 1 74 0 0,A9 76 1 3,AA 77 1 76 0 0]
def sK:List aw :=
 [⟨(some 78),(.call 79 [(tm 68),(tm 75),(tm 77)]),none⟩]
def uG:LSO:=[Aa 79 0,Ad 80 1 3,Ab 81 1 80,Bu 82 80 79 81 1]
def uF:LSO:=[An 84 36 2,Aa 83 84]
def uE:LSO:=[Ad 86 1 3,Ab 87 1 86,Aj 88 58 87,Aa 85 88,Ao 89 85,Aq 90 85,Aa 7 89,Aa 8 90]
def uD:LSO:=[Aa 91 0,Au 92 91,Ad 93 0 92,Ab 94 1 93,Au 95 94,Ad 96 2 95,Ab 97 1 96,Aa 98 7,o0 (.mdel .str (tm 97) (tm 98))]
def uC:LSO:=[Aa 99 0,Au 100 99,Ad 101 0 100,Ab 102 1 101,Au 103 102,Ad 104 1 103,Ab 105 1 104,Aa 106 6,o0 (.mdel .int (tm 105) (tm 106))]
def uB:LSO:=[Aa 107 0,Ad 108 1 3,Ab 109 1 108,Bu 110 80 107 109 (-1)]
def uA:LSO:=[An 112 36 3,Aa 111 112]
def uz:List (aw×Kd):=
 [AD 113 0,AP 114 113 0 0,A9 115 0 114,AA 116 1 115 0 0,AP 117 116 0 0,A9 118 1 117,AA 119 1 118 0 0,AD 120 6,od 121 (.mget .int false .nilptr (tm 119) (tm 120)) (.read 0 0),
 A9 122 3 3,AA 123 1 122 0 0,Bd 124 60 123 0 0]
def sJ:List aw :=
 [⟨(some 125),(.nilchk (tm 121)),none⟩,⟨(some 126),(.faddr 2 (tm 125)),none⟩,⟨none,(.store 1 (tm 126) (tm 124)),none⟩]
def uy:LSO:=[An 128 36 4,Aa 127 128]
def ux:LSO:=[Aa 129 0,Au 130 129,Ad 131 0 130,Ab 132 1 131,Aa 133 6,Bu 134 23 132 133 2,Aa 9 134]
def uw:LSO:=[Aa 135 9,Ah 136 135,Ac 137 0]
def uv:LSO:=[Al 138 137 136]
def uu:LSO:=[Am 139 1 135 137,Ab 140 1 139,Aa 11 140]
def ur:LSO:=[Aa 142 0,Au 143 142,Ad 144 0 143,Ab 145 1 144,Au 146 145,Ad 147 1 146,Ab 148 1 147,Aa 149 11,Bv 150 148 149,Au 151 150,Ad 152 0 151,Ab 153 1 152,
 Aj 154 58 153,Aa 141 154,Ao 155 141,Aq 156 141,Aa 12 155,Aa 13 156]
def uo:LSO:=[Aa 157 0,Au 158 157,Ad 159 0 158,Ab 160 1 159,Au 161 160,Ad 162 2 161,Ab 163 1 162,Aa 164 12,o0 (.mdel .str (tm 163) (tm 164))]
def um:LSO:=[Ai 165 137 1,Aa 137 165]
def ul:LSO:=[Aa 166 0,Ad 167 1 3,Ab 168 1 167,Bu 169 80 166 168 (-1)]
def uj:LSO:=[Aa 170 9,Ah 171 170,Ac 172 0]
def ui:LSO:=[Al 173 172 171]
def uh:LSO:=[Am 174 1 170 172,Ab 175 1 174,Aa 15 175]
def ug:LSO:=[Aa 176 0,Au 177 176,Ad 178 0 177,Ab 179 1 178,Au 180 179,Ad 181 1 180,Ab 182 1 181,Aa 183 15,Bv 184 182 183,Au 185 184,Ad 186 0 185,Ab 187 1 186,
 Aa 16 187]
def uf:List (aw×Kd):=
 [AD 188 0,AD 189 15,A9 190 2 3,AA 191 1 190 0 0,AD 192 16,AD 193 16,od 194 (.len false (tm 193)) (.read 0 0),A9 195 1 3,AA 196 1 195 0 0,
 od 197 (.len false (tm 196)) (.read 0 0),od 198 (.bin .sub (tm 194) (tm 197)) .pure,od 199 (.slV 1 (tm 192) none (some (tm 198)) none) (.read 0 0),
 od 200 (.call 59 [(tm 191),(tm 199)]) (.read 0 0)]
def sI:List aw :=
 [⟨(some 201),(.call 79 [(tm 188),(tm 189),(tm 200)]),none⟩]
def ue:LSO:=[Ai 202 172 1,Aa 172 202]
def uc:LSO:=[Aa 203 0,Ad 204 2 3,Ab 205 1 204,Bu 206 80 203 205 1]
def ub:List (aw×Kd):=
 [AD 207 0,AP 208 207 0 0,A9 209 0 208,AA 210 1 209 0 0,AP 211 210 0 0,A9 212 1 211,AA 213 1 212 0 0,AD 214 6,od 215 (.mget .int false .nilptr (tm 213) (tm 214)) (.read 0 0),
 A9 216 3 3,AA 217 1 216 0 0,Bd 218 60 217 0 0]
def sH:List aw :=
 [⟨(some 219),(.nilchk (tm 215)),none⟩,⟨(some 220),(.faddr 2 (tm 219)),none⟩,⟨none,(.store 1 (tm 220) (tm 218)),none⟩]
def t8:LSO:=[Ac 4 0]
def cR:aK:=⟨221,(ash xc [] (.seq (ash xb C4 (asj 18 (.sreg xa []))) (.seq (.sdreg w9 [.pure,(.read 0 0),.pure,(.read 0 0),(.read 0 0)] CC) (.seq (ash w8 C4 (asj 26 (.sreg w7 C4))) (.seq (.sdreg wZ [.pure,(.read 0 0),.pure,(.read 0 0),.pure,(.read 0 0)] CE) (.seq (ash wY C4 (.block 0 (ash wX C4 (asi 37 (ash wW De (.seq (.dregM uI sL [false,false,false,false,false,false,false,false,false,false,false,false,false,false,false,false,false,false,false]) (.seq (.dregM uH sK [false,false,false,false,false,false,false,false,false,false,false]) (.sreg uG CN)))) (ash uF C4 (asi 83 (ash uE Da (ash uD CO (ash uC CO (.sreg uB CN)))) (ash uA C4 (asi 111 (.dregM uz sJ Df) (ash uy C4 (asi 127 (ash ux CC (.seq (ash uw [] (ask 1 (ash uv [] (.seq (asl 138 1) (.seq (.block 2 (ash uu C6 (ash ur [false,true,false,false,false,false,false,false,false,false,false,false,false,false,false,false,false,false] (.sreg uo CO)))) (.sreg um C4)))))) (ash ul CN (.seq (ash uj [] (ask 3 (ash ui [] (.seq (asl 173 3) (.seq (.block 4 (ash uh C6 (ash ug Dp (.dregM uf sI Df)))) (.sreg ue C4)))))) (ash uc CN (.dregM ub sH Df)))))) .skip)))))))))) (ash t8 [] .ret))))))),[(.tmp 4)]⟩
attribute [push_cast] xc xb xa w9 w8 w7 wZ wY wX wW uI sL uH sK uG uF uE uD uC uB uA uz sJ uy ux uw uv uu ur uo um ul uj ui uh ug uf sI ue uc ub sH t8
theorem fV:asm 34=asn cR:=asq
def sF:LSO:=[Ay 3 1,Ac 4 0]
def sE:LSO:=[Aa 8 0,B5 9 8]
def sD:LSO:=[Ac 4 1]
def sB:LSO:=[Aa 10 0,Ad 11 1 3,Ab 12 1 11,Ar 13 24 10 12,Aa 5 13]
def sA:LSO:=[Ad 14 0 3,Ab 15 1 14]
def sy:LSO:=[An 17 15 1,Aa 16 17]
def sx:LSO:=[Ad 19 1 3,Ab 20 1 19,Aj 21 36 20,Aa 18 21,Ao 22 18,Aq 23 18,Aa 6 22,Aa 7 23]
def sw:LSO:=[Aa 25 7,AB 26 25 0,Aa 24 26]
def su:LSO:=[Ac 4 34]
def sq:LSO:=[Aa 28 5,A7 29 28 0,Aa 27 29]
def qr:LSO:=[Ac 4 68]
def qq:LSO:=[Aa 31 0,Ad 32 1 3,Ab 33 1 32,Aa 34 0,Au 35 34,Ad 36 0 35,Ab 37 1 36,AF 38 123 31 33 37,A3 39 38,Aa 40 39,.grp none 40 true
 [Az 41 40 1 3,A0 42 40 1 41,AE 43 40 42,AO 44 40 43 0,Ae 45 40 44,.grp (some (40,true)) 45 false
 [Ag 46 45 0,A8 47 45 1 3,A6 48 45 1 47,og 49 45 false (.slV 1 (tm 48) (some (iv 1)) none none),Cx 50 45 24 46 49,AI 51 45 50 0]
 52 (tm 51)]
 53 (tm 52),Aa 30 53]
def qo:LSO:=[Ac 4 32]
def qn:LSO:=[Aa 55 0,Au 56 55,Ad 57 1 56,Ab 58 1 57,o1 59 (.mlen (tm 58)),AL 60 59 4096,Aa 54 60]
def qm:LSO:=[Ac 4 80]
def ql:LSO:=[Ac 4 0]
def qj:LSO:=[An 62 15 2,Aa 61 62]
def qi:LSO:=[An 63 15 3,Aa 61 63]
def qh:LSO:=[An 64 15 4,Aa 61 64]
def qg:LSO:=[Aa 65 5,An 66 65 0]
def qf:LSO:=[Ac 4 32]
def qd:LSO:=[Ad 67 0 3,Ab 68 1 67]
def qc:LSO:=[An 70 68 2,Aa 69 70]
def p9:LSO:=[Aa 71 0,Au 72 71,Ad 73 1 72,Ab 74 1 73,Aa 75 5,Bv 76 74 75,Au 77 76,Ad 78 3 77,Ab 79 1 78,A7 80 79 0]
def p0:LSO:=[Ac 4 66]
def pZ:LSO:=[Ac 4 0]
def pY:LSO:=[An 82 68 3,Aa 81 82]
def pX:LSO:=[Ac 4 0]
def pW:LSO:=[An 84 68 4,Aa 83 84]
def pV:LSO:=[Aa 85 0,Aa 86 5,As 87 4 3,AF 88 124 85 86 87,Aa 4 88]
def pU:LSO:=[Ac 4 1]
def ax:aK:=⟨89,(ash sF [] (.seq (ash sE C4 (asj 9 (.sreg sD []))) (ash sB CA (.seq (ash sA C4 (.block 0 (ash sy C4 (asi 16 (ash sx CE (.seq (.block 1 (ash sw C6 (asi 24 (ash su [] .ret) (ash sq C6 (asi 27 (ash qr [] .ret) (.seq (.sdreg qq [.pure,.pure,(.read 0 0),.pure,(.read 0 0),.pure,(.read 0 0),(.read 0 0),.pure,.pure,.pure,(.read 0 0),(.read 0 0),.pure,.pure,.pure,.pure,(.read 0 0),(.read 0 0)] CK) (asi 30 (ash qo [] .ret) (ash qn CC (asj 54 (.sreg qm [])))))))))) (ash ql [] .ret))) (.seq (ash qj C4 (asi 61 .skip (ash qi C4 (asi 61 .skip (.sreg qh C4))))) (asi 61 (ash qg C4 (asj 66 (.sreg qf []))) .skip)))))) (.seq (ash qd C4 (.block 2 (ash qc C4 (asi 69 (.seq (ash p9 CG (asj 80 (.sreg p0 []))) (ash pZ [] .ret)) (ash pY C4 (asi 81 (ash pX [] .ret) (ash pW C4 (asj 83 (.sreg pV CA))))))))) (ash pU [] .ret)))))),[(.tmp 4)]⟩
attribute [push_cast] sF sE sD sB sA sy sx sw su sq qr qq qo qn qm ql qj qi qh qg qf qd qc p9 p0 pZ pY pX pW pV pU
theorem bh:asm 78=asn ax:=asq
def sn:LSO:=[Ac 4 0]
def sj:LSO:=[Aa 7 0,B5 8 7]
def sh:LSO:=[Ac 4 0]
def sg:LSO:=[Aa 10 1,Aj 11 58 10,Aa 9 11,Ao 12 9,Aq 13 9,Aa 5 12,Aa 6 13]
def se:LSO:=[Aa 14 6,AB 15 14 0]
def sb:LSO:=[Ac 4 0]
def sa:LSO:=[Aa 16 0,Au 17 16,Ad 18 2 17,Ab 19 1 18,Aa 20 5,o1 21 (.mget .str false (.int .i64 0) (tm 19) (tm 20)),Aa 4 21]
def bG:aK:=⟨22,(ash sn [] (.seq (ash sj C4 (asj 8 (.sreg sh []))) (ash sg CH (.seq (ash se C4 (asj 15 (.sreg sb []))) (ash sa CC .ret))))),[(.tmp 4)]⟩
attribute [push_cast] sn sj sh sg se sb sa
theorem dE:asm 24=asn bG:=asq
def Jh:LSO:=[Ay 1 0,Af 2]
def Jg:LSO:=[Ad 9 1 1,Ab 10 1 9,Ad 11 2 1,Ab 12 1 11,o1 13 (.bslice false 1 2 [(.sl [] 0 (some 0)),(.sl [] 0 (some 0))] [(0,(1,(tm 10))),(1,(1,(tm 12)))]),Ah 14 13,
 Ac 15 0]
def Jf:LSO:=[Al 16 15 14]
def Je:LSO:=[Am 17 1 13 15,Ab 18 1 17,Aa 4 18]
def Jd:LSO:=[Aa 19 4,Ah 20 19,A7 21 20 40]
def Jc:LSO:=[Af 2]
def Jb:LSO:=[Aa 22 4,Ah 23 22,Ac 24 0]
def Ja:LSO:=[Al 25 24 23]
def I9:LSO:=[Am 26 1 22 24,Ab 27 1 26,Aa 6 27]
def I8:LSO:=[Aa 28 6,Ah 29 28,Ac 30 0]
def DX:LSO:=[Al 31 30 29]
def DW:LSO:=[Am 32 2 28 30,As 33 2 32,Bm 8,Ap 2 8 33]
def DV:LSO:=[Aa 34 6,Ah 35 34,A7 36 35 10,Aa 37 36,.grp none 37 false
 [A8 38 37 1 8,A6 39 37 1 38,Br 40 37 39,AC 41 37 40 5000]
 42 (tm 41)]
def DU:LSO:=[Af 2]
def DT:LSO:=[Ai 43 30 1,Aa 30 43]
def DS:LSO:=[Ai 44 24 1,Aa 24 44]
def DR:LSO:=[Ai 45 15 1,Aa 15 45]
def DQ:LSO:=[Ad 46 3 1,Ab 47 1 46,Aj 48 13 47,Aa 2 48]
def wP:aK:=⟨49,(ash Jh [] (.seq (ash Jg Dg (ask 0 (ash Jf [] (.seq (asl 16 0) (.seq (.block 1 (ash Je C6 (.seq (ash Jd C6 (asj 21 (.sreg Jc []))) (ash Jb [] (ask 2 (ash Ja [] (.seq (asl 25 2) (.seq (.block 3 (ash I9 C6 (ash I8 [] (ask 4 (ash DX [] (.seq (asl 31 4) (.seq (.block 5 (ash DW C6 (ash DV CA (asj 42 (.sreg DU []))))) (.sreg DT C4)))))))) (.sreg DS C4))))))))) (.sreg DR C4)))))) (ash DQ C7 .ret))),[(.tmp 2)]⟩
attribute [push_cast] Jh Jg Jf Je Jd Jc Jb Ja I9 I8 DX DW DV DU DT DS DR DQ
theorem WH:asm 8=asn wP:=asq
attribute [push_cast] Ey dJ jL cR ax bG wP
open Go Go.Sort Go.Proofs
variable {L:List Blk}{K:aoY}
set_option maxHeartbeats 8000000
set_option maxRecDepth 100000
theorem aer(z:Array Value):∀k,(Builtin.zeroCells z k).size=k*z.size:=by intro k;simp[Builtin.zeroCells]
theorem ajs:∃i0,Tryz.prog.info? 99=some i0/\i0.zero=some (.slice none 0 0)/\i0.size=1/\i0.bytes=24:=by
 have h:(Tryz.prog.info? 99).map (λi=>(i.zero,i.size,i.bytes))=some (some (.slice none 0 0),1,24):=asq;cases hi:Tryz.prog.info? 99 with
 |none=>rw[hi]at h;cases h
 | some i0 =>
   rw[hi]at h;simp only[apl,ao1,apf]at h;exact⟨i0,rfl,h⟩
theorem ajC{L:List Blk}{K:aoY}(h:K (.sl [] 0 (some 0)) L):aoX 157 [.sl [] 0 (some 0),.int .i64 0] L K :=
 dD Tryz.func157 rfl asq (λw0 S0 E w vs k a=>by simp only[VRL]at a;obtain⟨v,_,rfl,a,_,_,rfl,d,rfl⟩:=a;have b:=a;simp only[VR]at a d;obtain⟨p,c,rfl,_,i,_⟩:=a;have f:c=0:=i 0 rfl;subst f;subst d;exact(Any8.slices_Grow_room Tryz.growD p 0 0 0 w (ao0 _) aso aso aso).mono λe w' ⟨j,g⟩=>⟨_,j,b,by subst g;exact EA.refl _⟩) h
theorem alC{n:Nat}(x:0<n)(u:n<=4000000)(h:K (.lsl L.length 0 0 none 1) (L++[.cells []])):aoX 157 [.sl [] 0 (some 0),.int .i64 (n:Int)] L K:=λw0 S0 E w vs t d=>by
 simp only[VRL,VR]at d;obtain⟨_,_,rfl,⟨p,c,rfl,_,r,_⟩,_,_,rfl,rfl,rfl⟩:=d;have l:c=0:=r 0 rfl;subst l;obtain⟨i0,q,i2,i3,i4⟩:=ajs;refine .inl ⟨jC Tryz.func157 rfl asq _ _,(Any8.slices_Grow_grow Tryz.growD i0 (.slice none 0 0) q i2 aso p 0 0 n [] w (ao0 _) aso (by rw[i4];omega) aso asp (λ_=>rfl) (λa _ j v m=>by simp at m)).mono ?_⟩;rintro e w' ⟨rfl,rfl⟩;have s:Rel w0 S0 E L w.drew:=t.grown ⟨λ_ _=>rfl,ao0 _,rfl,rfl,rfl⟩
 let cs:Array Value:=([]:List Value).toArray++Builtin.zeroCells (Value.slice none 0 0).cells (0+n-0)++Builtin.zeroCells (Value.slice none 0 0).cells (grownCap w (0+n) 0 99-(0+n))
 have b:cs.size=n+(grownCap w (0+n) 0 99-n):=by simp only[cs,Array.size_append,aer];have:(Value.slice none 0 0).cells.size=1:=rfl;rw[this];simp
 have f:=s.push (.cells cs 99) (.cells []) ⟨w.heap.size,0,cs.size⟩ rfl rfl ⟨⟨w.heap.size,0,cs.size⟩,cs,99,(0,0),asp,(show(w.heap.push (Obj.cells cs 99))[w.heap.size]?=some (Obj.cells cs 99 (0,0))by simp),rfl,asp,(λj a g=>by simp at g),λo _ _=>aso⟩;refine⟨_,_,_,_,rfl,f.1,h,?_,f.2⟩;simp only[VR];exact⟨⟨w.heap.size,0,cs.size⟩,grownCap w (0+n) 0 99,0,asp,rfl,λ_=>rfl,ao2 _,(λk i=>by cases i),by simp only[b];omega⟩
abbrev aav(l:List AV):AV:=.sl l l.length none
theorem ak6{a:List (List AV)}{k:Nat}(h:k<a.length):(a.map aav).getD k .undef=aav (a.getD k []):=by simp[h]
theorem afm{a:List (List AV)}{k:Nat}(h:k<a.length):(a.take (k+1)).flatten=(a.take k).flatten++a.getD k []:=by rw[aph h,List.flatten_append];simp[h]
theorem ajS(a:List (List AV))(k:Nat):(a.take k).flatten.length<=a.flatten.length:=by
 have h:a.flatten=(a.take k).flatten++(a.drop k).flatten:=by rw[<- List.flatten_append,aqy]
 rw[h];simp
theorem abv{a:List (List AV)}{cap:Option Nat}(P:a.length<=1100000)(M:a.flatten.length<=1100000)(j:∀l∈a,l.all AV.one=true)(g:∀p,AV.refsL p a.flatten=true){L:List Blk}{K:aoY}(h:K (.sl a.flatten a.flatten.length none) L):
  aoX 102 [.sl (a.map aav) a.length cap] L K:=by
 replace h:=hid h;have y:=hid (λk=>@afm a k);have z:=hid (ajS a);have w:=hid (λk=>@ak6 a k);replace j:=hid j;replace g:=hid g;refine aoW ko ?_;refine ak (λn T' L'=>∃k:Nat,n=a.length-k/\k<=a.length/\T'=[(11,.int .i64 (k:Int)),(10,.int .i64 a.length),(9,.sl (a.map aav) a.length cap),(3,.int .i64 ((a.take k).flatten.length:Int)),(2,.sl [] 0 (some 0)),(0,.sl (a.map aav) a.length cap)]/\L=L') (CutS (b:=ao0 _)) ⟨0,rfl,ao2 _,rfl,rfl⟩ ?_;rintro _ _ _ ⟨k,rfl,D,rfl,rfl⟩;by_cases d:k<a.length;have g1:(k:Int)<(a.length:Int):=aso;have I:=aoV k aso;have q:=y.o k d;have x:=w.o k d;have r:=z.o (k+1);obtain⟨l,u⟩:=aoT (a.getD k []);rw[u]at q x;have C:(a.take (k+1)).flatten.length=(a.take k).flatten.length+l.length:=by rw[q,apd]
 rw[C]at r;obtain⟨m,s⟩:=aoT ((a.take k).flatten.length);rw[s]at r C⊢;replace q:=hid q;replace s:=hid s;replace u:=hid u;have g3:IntKind.i64.wrap ((m:Int)+(l.length:Int))=(m:Int)+(l.length:Int):=ae aso aso;have g4:¬((m:Int)+(l.length:Int)<0):=aso;refine wk ?_;exact ast aso (CutL (b:=ao0 _)) ⟨k+1,rfl,d,rfl,rfl⟩;have f:k=a.length:=aso;subst f;clear d D;have g1:¬(a.length:Int)<(a.length:Int):=aso;obtain⟨m,s⟩:=aoT (a.flatten.length);rw[apg,s];rw[s]at h M;rcases aqp m with N|A;subst N;have t:=hid (apK.1 s);have kk1:=@hid _ @ajC;refine wk ?_;refine bR (l:=[]) (n:=0) 6 1 rfl (aps 1).symm ?_;refine ak (λn T' L'=>∃k:Nat,n=a.length-k/\k<=a.length/\T'=[(27,.int .i64 (k:Int)),(26,.int .i64 a.length),(25,.sl (a.map aav) a.length cap),(6,.gsl [] 0 L.length 1)]/\L'=L++[.spare 0 1]) ass ⟨0,rfl,ao2 _,rfl,rfl⟩ ?_;rintro _ _ _ ⟨k,rfl,D,rfl,rfl⟩;by_cases d:k<a.length;have g1:(k:Int)<(a.length:Int):=aso;have I:=aoV k aso;have x:=w.o k d;have r:a.getD k []=[]:=List.flatten_eq_nil_iff.1 t.o _ (by rw[apo,ao8 d];exact apZ _);rw[r]at x;replace x:(a.map aav).getD k .undef=.sl [] 0 none:=x;clear r;refine wk ?_;exact ast aso asr ⟨k+1,rfl,d,rfl,rfl⟩;have f:k=a.length:=aso;subst f;have g1:¬(a.length:Int)<(a.length:Int):=aso;refine wk ?_;refine aY (ac (by rfl) ?_);have:=h.o;rw[t.o]at this;exact this;have kk1:=@hid _ (λL K=>alC A aso (K:=K) (L:=L));refine wk ?_;refine ak (λn T' L'=>∃(k i:Nat) (X:List Blk) (c:List AV),n=a.length-k/\k<=a.length/\Hid (c=(a.take k).flatten)/\c.length<=m/\i=L.length+X.length/\T'=[(27,.int .i64 (k:Int)),(26,.int .i64 a.length),(25,.sl (a.map aav) a.length cap),(6,.lsl i 0 c.length none 1)]/\L'=L++(X++[.cells c])) ass ⟨0,L.length,[],[],rfl,ao2 _,hid rfl,ao2 _,rfl,rfl,rfl⟩ ?_;rintro _ _ _ ⟨k,i,X,c,rfl,D,G,O,v,rfl,rfl⟩;have B:(L++(X++[Blk.cells c]))[i]?=some (.cells c):=by subst v;simp
 replace v:=hid v;by_cases d:k<a.length;have g1:(k:Int)<(a.length:Int):=aso;have I:=aoV k aso;have q:=y.o k d;have x:=w.o k d;have r:=z.o (k+1);obtain⟨l,u⟩:=aoT (a.getD k []);have E:l.all AV.one=true:=j.o l (by rw[<- u];simp[d]);rw[u]at q x;rw[<- G.o]at q;have C:c.length+l.length<=m:=by rw[q,apd,s]at r;exact r
 have R:(c.length+l.length)*24<=140737488355328:=aso;have Q:c.length+l.length<=140737488355328:=aso;replace q:=hid q;replace u:=hid u;clear r;have F:(L++(X++[Blk.cells c])).set i .dead=L++(X++[.dead]):=by rw[v.o];simp
 have H:(L++(X++[Blk.dead])).length=i+1:=by rw[v.o];simp;omega
 refine wk ?_;refine ast ?_ asr ⟨k+1,i+1,X++[.dead],c++l,rfl,d,hid q.o.symm,by simpa using C,by rw[v.o];simp;omega,rfl,?_⟩;omega;simp[apA];have f:k=a.length:=aso;subst f;have g1:¬(a.length:Int)<(a.length:Int):=aso;refine wk ?_;refine EC (i:=i) (l:=c) B ?_;rw[show(L++(X++[Blk.cells c])).set i .dead=L++(X++[.dead])by rw[v.o];simp];have e:=G.o;rw[apg]at e;have J:(AV.lsl i 0 c.length none 1).snap i c=.sl c c.length none:=by simp[AV.snap,apA]
 rw[J,e,s];exact ac (by simp only[AV.refs,g.o]) h.o
theorem ab9{d:List Rdn}{cap cap':Option Nat}(u:d.length<=1100000)(i:∀r∈d,r.length<=1100000)(h:K (.sl (d.map am) d.length none) L):
  aoX 59 [.sl (d.map am) d.length cap,.sl [] 0 cap'] L K:=by
 replace h:=hid h;have s:=hid (λk=>@mY d k);replace i:=hid i;have kk1:Hid (Ctr Tryz.prog 102 [.sl [.sl [] 0 cap',.sl (d.map am) d.length cap] 2 (some 2)] (.sl (d.map am) d.length none)):=@hid _ (by
  intro L K q;refine iK ?_;simp only[AV.frzL,AV.frz,bB];have:=@abv [[],d.map am] none asp (by simpa using u) (λl t=>by simp at t;rcases t with rfl|rfl;rfl;rw[apa];intro a w;obtain⟨r,_,rfl⟩:=ao6.1 w;rfl) (λp=>by simpa using fD p d) L K
  simp only[ar3,ar4,apG,apx,apv,aqI,apm,apJ,apb,aav]at this;exact this q)
 refine aoW VX ?_;refine bR (l:=[]) (n:=0) 5 1 rfl (aps 1).symm ?_;refine ak (λm T' L'=>∃(k:Nat) (C:List AV) (X:List Blk),m=d.length-k/\k<=d.length/\Hid (C=(d.take k).map am)/\T'=[(13,.int .i64 (k:Int)),(12,.int .i64 d.length),(11,.sl (d.map am) d.length none),(5,.gsl C k L.length 1)]/\L'=L++(.spare k 1::X)) ass ⟨0,[],[],rfl,ao2 _,hid rfl,rfl,asp⟩ ?_;rintro _ _ _ ⟨k,C,X,rfl,y,g,rfl,rfl⟩;by_cases b:k<d.length;have g1:(k:Int)<(d.length:Int):=aso;have D:=aoV k aso;have x:=s.o k b;have z:k<(d.map am).length:=by simpa using b
 obtain⟨r,c⟩:=aoT (d.getD k []);have v:=i.o r (by rw[<- c];simp[b]);have e:(d.take (k+1)).map am=C++[.sl (bd r) r.length none]:=by rw[g.o,aph b,apz,show d[k]=r by rw[<- c];simp[b]];rfl
 rw[c]at x;have B:=gR r;have A:=dm r;replace e:=hid e;clear c g;refine wk ?_;exact ast aso asr ⟨k+1,_,_,rfl,b,hid e.o.symm,rfl,rfl⟩;have j:k=d.length:=aso;subst j;have g1:¬(d.length:Int)<(d.length:Int):=aso;have f:=g.o;rw[apg]at f;subst f;clear g;refine wk ?_;refine aY ?_;simp only[AV.frz,bB];exact ac (by simp only[AV.refs,fD]) h.o
def smA(n:Nat)(a:Ava):Bool:=decide (n<=10)&&decide (a.2.length<=5000)
def smR(r:Rdn):Bool:=r.all (smA r.length)
def smD(d:List Rdn):Bool:=decide (d.length<=40)&&d.all smR
def smU(u:Upd):Bool:=smD u.dn&&(smD u.tw&&afo u.attrs)
def Ox(d:List Rdn):Prop:=(d.length:Int)<=9223372036854775807/\∀r∈d,(r.length:Int)<=9223372036854775807
theorem YL{u:Upd}(hd:Ox u.dn)(ht:Ox u.tw)(hl:(u.attrs.length:Int)<=9223372036854775807)(hz:∀a∈u.attrs,(a.2.length:Int)<=9223372036854775807)(h:K (.bool (smU u)) L):
  aoX 8 [.agg (rH u)] L K:=by
 obtain⟨k,d,t,l⟩:=u;simp only[rH,smU]at hd ht hl hz h⊢;obtain⟨I,E⟩:=aoT (afo l);have kk1:Hid (Ctr Tryz.prog 13 [.sl (aJ l) l.length none] (.bool I)):=@hid _ (by intro L K q;exact an1 hl hz (by rw[E];exact q));rw[E]at h;obtain⟨n,y⟩:∃n,n=[d,t]:=⟨_,rfl⟩;obtain⟨R,O⟩:=aoT ((n.all smD&&I));have M:(smD d&&(smD t&&I))=R:=by rw[<- O,y];simp[ar9]
 rw[M]at h;replace h:=hid h;have a9:n.length=2:=by rw[y];rfl
 have G:∀x∈n,Ox x:=λx D=>by rw[y]at D;simp at D;rcases D with rfl|rfl<;>assumption
 have s:AV.sl [dnA d,dnA t] 2 (some 2)=.sl (n.map dnA) 2 (some 2):=by rw[y];rfl
 replace G:=hid G;obtain⟨U,N⟩:∃U,U=[AV.int .i64 k,dnA d,dnA t,.sl (aJ l) l.length none]:=⟨_,rfl⟩;have a0:U.getD 3 .undef=.sl (aJ l) l.length none:=by rw[N];rfl
 have a1:U.length=4:=by rw[N];rfl
 clear E hz M hd ht;replace s:=hid s;replace N:=hid N;replace y:=hid y;refine aoW WH ?_;rw[s.o,<- N.o];clear s;refine ak (λm T' L'=>∃(i:Nat) (X:List Blk),m=2-i/\i<=2/\Hid (((n.drop i).all smD&&I)=R)/\T'=[(15,.int .i64 (i:Int)),(14,.int .i64 2),(13,.sl (n.map dnA) 2 (some 2)),(1,.ptr L.length 0)]/\L'=L++(.cells U::X)) ass ⟨0,[],rfl,aso,hid (by simpa using O),rfl,asp⟩ ?_;rintro _ _ _ ⟨i,X,rfl,hi,P,rfl,rfl⟩;by_cases ai:i<2;have g1:(i:Int)<2:=aso;have g2:=aoV i aso;obtain⟨x,D⟩:=aoT (n.getD i []);have A:i<n.length:=aso;have J:=G.o x (by rw[<- D];simp[A]);have e2:(n.map dnA).getD i .undef=dnA x:=by rw[<- D];simp[A]
 have e3:i<(n.map dnA).length:=by simpa using A
 have g:n.drop i=x::n.drop (i+1):=by rw[apw A,<- D];simp[A]
 have f:=P.o;rw[g,aqd]at f;obtain⟨S,H⟩:=aoT (((n.drop (i+1)).all smD&&I));rw[ar9,H]at f;clear P g D O;by_cases av:(40:Int)<(x.length:Int);have v:=h.o;rw[<- f,smD,decide_eq_false aso]at v;replace v:=hid v;clear f H;refine wk ?_;exact ac rfl v.o;have F:(x.all smR&&S)=R:=by rw[<- f,smD,decide_eq_true aso,apy]
 have a8:x.length<=40:=aso;have an:=hid J.2;clear f J;have ar:=hid (λk=>@mY x k);refine wk ?_;refine ak (λm T' L'=>∃(j:Nat) (Y:List Blk),m=x.length-j/\j<=x.length/\X.length<=Y.length/\Hid (((x.drop j).all smR&&S)=R)/\T'=[(24,.int .i64 (j:Int)),(23,.int .i64 x.length),(22,dnA x),(15,.int .i64 (i:Int)),(14,.int .i64 2),(13,.sl (n.map dnA) 2 (some 2)),(1,.ptr L.length 0)]/\L'=L++(.cells U::Y)) ass ⟨0,_,rfl,aso,ao0 _,hid (by simpa using F),rfl,rfl⟩ ?_;rintro _ _ _ ⟨j,Y,rfl,hj,a4,V,rfl,rfl⟩;by_cases w:j<x.length;have j1:(j:Int)<(x.length:Int):=aso;have j2:=aoV j aso;have e4:=ar.o j w;have e5:j<(x.map am).length:=by simpa using w
 obtain⟨r,Q⟩:=aoT (x.getD j []);have a2:=an.o r (by rw[<- Q];simp[w]);have g:x.drop j=r::x.drop (j+1):=by rw[apw w,<- Q];simp[w]
 rw[Q]at e4;have e:=V.o;rw[g,aqd]at e;obtain⟨S2,B⟩:=aoT (((x.drop (j+1)).all smR&&S));rw[ar9,B,smR]at e;clear V g Q F;refine wk ?_;refine ak (λm T' L'=>∃(p:Nat) (Z:List Blk),m=r.length-p/\p<=r.length/\Y.length<=Z.length/\Hid (((r.drop p).all (smA r.length)&&S2)=R)/\T'=[(30,.int .i64 (p:Int)),(29,.int .i64 r.length),(28,am r),(6,am r),(24,.int .i64 (j:Int)),(23,.int .i64 x.length),(22,dnA x),(15,.int .i64 (i:Int)),(14,.int .i64 2),(13,.sl (n.map dnA) 2 (some 2)),(1,.ptr L.length 0)]/\L'=L++(.cells U::Z)) ass ⟨0,_,rfl,aso,ao0 _,hid (by simpa using e),rfl,rfl⟩ ?_;rintro _ _ _ ⟨p,Z,rfl,hp,a6,T,rfl,rfl⟩;by_cases C:p<r.length;have p1:(p:Int)<(r.length:Int):=aso;have p2:=aoV p aso;have e6:=gS C;have e7:p*2+2<=(bd r).length:=by rw[dm];omega
 obtain⟨⟨ty,va⟩,ha⟩:∃a,r.getD p ([],[])=a:=⟨_,rfl⟩;have g:r.drop p=(ty,va)::r.drop (p+1):=by rw[apw C,<- ha];simp[C]
 rw[ha]at e6;simp only[pu]at e6;have c:=T.o;rw[g,aqd,ar9]at c;obtain⟨S3,z⟩:=aoT (((r.drop (p+1)).all (smA r.length)&&S2));rw[z]at c;clear T g ha e H B;by_cases a5:(10:Int)<(r.length:Int);have v:=h.o;rw[<- c,smA,decide_eq_false aso]at v;replace v:=hid v;clear c z;refine wk ?_;exact ac rfl v.o;by_cases a3:(5000:Int)<(va.length:Int);have v:=h.o;rw[<- c,smA,decide_eq_true aso,decide_eq_false (by simp only;omega)]at v;replace v:=hid v;clear c z;refine wk ?_;exact ac rfl v.o;have al:S3=R:=by rw[<- c,smA,decide_eq_true aso,decide_eq_true (by simp only;omega)];rfl
 subst al;replace z:=hid z;clear c;refine wk ?_;exact ast aso (CutL (b:=by simp;omega)) ⟨p+1,_,rfl,C,by simp;omega,z,rfl,rfl⟩;have W:p=r.length:=aso;subst W;have p1:¬(r.length:Int)<(r.length:Int):=aso;have c:=T.o;rw[apM,aq1,apy,<- B]at c;replace c:=hid c;clear T e H B;refine wk ?_;exact ast aso (CutL (b:=by simp;omega)) ⟨j+1,_,rfl,w,aso,c,rfl,rfl⟩;have ap:j=x.length:=aso;subst ap;have j1:¬(x.length:Int)<(x.length:Int):=aso;have e:=V.o;rw[apM,aq1,apy,<- H]at e;replace e:=hid e;clear V H F;refine wk ?_;exact ast aso asr ⟨i+1,_,rfl,ai,e,rfl,rfl⟩;have ad:i=2:=aso;subst ad;have f:=P.o;rw[aqW aso,aq1,apy]at f;subst f;clear P O;refine wk ?_;exact ac rfl h.o
end Go.Proofs.YtdnfjhflkkpokaaGreatDoor.Av
set_option maxRecDepth 100000
namespace Go.Proofs.YtdnfjhflkkpokaaGreatDoor.Av
open Go
def Px:LSO:=[Ak 2]
def Pw:LSO:=[Ak 3]
def Pv:LSO:=[Aa 6 0,Ah 7 6,Ac 8 0]
def Pu:LSO:=[Al 9 8 7]
def Pt:LSO:=[Am 10 2 6 8,As 11 2 10,Bj 5,Ap 2 5 11]
def Ps:List (aw×Kd):=
 [AD 12 3,A9 13 0 5,AA 14 1 13 0 0,A9 15 1 5,AA 16 1 15 0 0,Bd 17 47 16 0 0,Cs 18 14 17,Ct 19 18 0 0]
def J3:List aw :=
 [⟨(some 20),(.app 1 2 40 [(.str []),(.sl [] 0 (some 0))] (tm 12) (tm 19)),none⟩,⟨(some 3),(.mv (tm 20)),none⟩]
def Pr:LSO:=[Ai 21 8 1,Aa 8 21]
def Pq:LSO:=[Aa 22 3,Aa 2 22]
def NJ:aK:=⟨23,(ash Px [] (ash Pw [] (.seq (ash Pv [] (ask 0 (ash Pu [] (.seq (asl 9 0) (.seq (.block 1 (ash Pt C6 (.dregM Ps J3 CG))) (.sreg Pr C4)))))) (ash Pq C4 .ret)))),[(.tmp 2)]⟩
attribute [push_cast] Px Pw Pv Pu Pt Ps J3 Pr Pq
theorem ZU:asm 60=asn NJ:=asq
def pT:LSO:=[Ak 4,Ak 5]
def pS:LSO:=[Aa 7 0,B5 8 7,Aa 9 8,.grp none 9 false
 [Ag 10 9 0,og 11 9 false (.nilchk (tm 10)),A8 12 9 1 11,A6 13 9 1 12,Ag 14 9 1,og 15 9 false (.mget .int false .nilptr (tm 13) (tm 14)),BV 16 9 15]
 17 (tm 16)]
def pR:LSO:=[Ak 4,Ak 5]
def pQ:LSO:=[Aa 18 0,Au 19 18,Ad 20 1 19,Ab 21 1 20,Aa 22 1,Bv 23 21 22,Aa 6 23]
def pP:LSO:=[Aa 24 6,Au 25 24,Ad 26 0 25,Ab 27 1 26,BW 28 59 27,Aa 29 6,Au 30 29,Ad 31 2 30,Ab 32 1 31,Aj 33 60 32,Aa 4 28,Aa 5 33]
def fU:aK:=⟨34,(ash pT [] (.seq (ash pS C7 (asj 17 (.sreg pR []))) (ash pQ CC (.seq (.sdreg pP [.pure,(.read 0 0),.pure,(.read 0 0),(.read 0 0),.pure,(.read 0 0),.pure,(.read 0 0)] CW) .ret)))),[(.tmp 4),(.tmp 5)]⟩
attribute [push_cast] pT pS pR pQ pP
theorem o6:asm 25=asn fU:=asq
def PE:LSO:=[Ak 2]
def PD:LSO:=[o1 3 (.alloc [(.sl [] 0 (some 0))])]
def PC:LSO:=[Aa 8 0,Aj 9 179 8]
def PB:LSO:=[Aa 5 11]
def PA:LSO:=[Aa 13 5,Bl 14 13,Aj 15 58 14,Aa 12 15,Ao 16 12,Aq 17 12,Aa 6 16,Aa 7 17]
def Pz:LSO:=[Ab 18 1 3,Aa 19 6,B4 20 19,BK 21 18 20,Ap 1 3 21]
def Py:LSO:=[Ab 22 1 3,Aa 2 22]
def NL:aK:=⟨23,(ash PE [] (ash PD [] (.seq (ash PC C4 (.block 0 (.rangeF (tm 9) [10,11] (.sreg PB []) (.block 1 (ash PA Da (.sreg Pz CN)))))) (ash Py C4 .ret)))),[(.tmp 2)]⟩
attribute [push_cast] PE PD PC PB PA Pz Py
theorem ZV:aL Tryz.prog (λr i=>if r=5/\i=3 then 2 else 1) 125=some NL.raw:=asq
def pO:LSO:=[Ay 3 0,Ak 6]
def pN:LSO:=[Ab 12 1 3,B5 13 12,Aa 14 13,.grp none 14 false
 [A6 15 14 1 3,og 16 14 false (.nilchk (tm 15)),A8 17 14 1 16,A6 18 14 1 17,Ag 19 14 1,og 20 14 false (.mget .int false .nilptr (tm 18) (tm 19)),BV 21 14 20]
 22 (tm 21),Aa 23 22,.grp none 23 false
 [Ag 24 23 2,Bp 25 23 24 0]
 26 (tm 25),Aa 27 26,.grp none 27 false
 [Ag 28 27 2,AC 29 27 28 2]
 30 (tm 29)]
def pM:LSO:=[Ak 6]
def pL:LSO:=[Ab 31 1 3,Au 32 31,Ad 33 1 32,Ab 34 1 33,Aa 35 1,Bv 36 34 35,Au 37 36,Ad 38 1 37,Ab 39 1 38,Aa 7 39]
def pK:LSO:=[Ak 8]
def pJ:LSO:=[Ab 40 1 3,Au 41 40,Ad 42 1 41,Ab 43 1 42,o1 44 (.mrange (tm 43))]
def pI:LSO:=[o1 45 (.mnext (tm 44)),Ao 46 45]
def pH:LSO:=[o1 47 (.mentry (tm 44)),Ao 48 47,Aq 49 47,Aa 9 48,Aa 10 49]
def pG:LSO:=[Aa 50 10,Au 51 50,Ad 52 1 51,Ab 53 1 52,Ah 54 53,Aa 55 7,Ah 56 55,BE 57 54 56,Aa 11 57]
def pF:LSO:=[Aa 58 11,AL 59 58 0,Aa 60 59,.grp none 60 true
 [Ae 61 60 10,Bw 62 60 61,Az 63 60 1 62,A0 64 60 1 63,Ae 65 60 7,AE 66 60 65,og 67 60 true (.slV 1 (tm 64) none (some (tm 66)) none),Ae 68 60 7,AN 69 60 54 67 68]
 70 (tm 69),Aa 71 70,.grp none 71 true
 [Ae 72 71 2,AO 73 71 72 2,Ae 74 71 73,.grp (some (71,true)) 74 false
 [Ag 75 74 11,Ag 76 74 2,BB 77 74 75 76]
 78 (tm 77)]
 79 (tm 78)]
def nJ:LSO:=[Aa 80 8,Aa 81 9,Cu 82 81,o1 83 (.app 2 1 8 [(.int .i64 0)] (tm 80) (tm 82)),Aa 8 83]
def nI:LSO:=[Aa 84 8,o1 85 (.mkfn 56 [(tm 3)]),Ar 86 55 84 85]
def nH:LSO:=[Aa 87 8,Aa 6 87]
def cO:aK:=⟨88,(ash pO [] (.seq (ash pN CE (asj 30 (.sreg pM []))) (ash pL CG (ash pK [] (.seq (ash pJ CA (ask 0 (ash pI C4 (.seq (asl 46 0) (.block 1 (ash pH CF (ash pG CL (ash pF CB (asi 79 (.sreg nJ CA) .skip))))))))) (ash nI Dd (ash nH C4 .ret))))))),[(.tmp 6)]⟩
attribute [push_cast] pO pN pM pL pK pJ pI pH pG pF nJ nI nH
theorem fT:aL Tryz.prog (λr i=>if r=10/\i=3 then 2 else 1) 23=some cO.raw:=asq
def rZ:LSO:=[Af 6]
def rY:LSO:=[Aa 7 1,Ah 8 7,Aa 9 2,Ah 10 9,AH 11 8 10,Aa 12 11,.grp none 12 true
 [Ae 13 12 1,Ae 14 12 2,AN 15 12 62 13 14]
 16 (tm 15),Aa 6 16]
def gP:aK:=⟨17,(ash rZ [] (ash rY CE .ret)),[(.tmp 6)]⟩
attribute [push_cast] rZ rY
theorem rF:asm 123=asn gP:=asq
def me:LSO:=[Ay 5 2,Ac 6 0]
def md:LSO:=[Ad 16 2 5,Ab 17 1 16,Aj 18 36 17,Aa 15 18,Ao 19 15,Aq 20 15,Aa 7 19,Aa 8 20]
def mc:LSO:=[Aa 22 0,Ad 23 1 5,Ab 24 1 23,Aa 25 0,Au 26 25,Ad 27 0 26,Ab 28 1 27,AF 29 123 22 24 28,Aa 21 29]
def ma:LSO:=[Ac 6 53]
def l9:LSO:=[Aa 31 8,AB 32 31 0,Aa 33 32,.grp none 33 false
 [A8 34 33 2 5,A6 35 33 1 34,AS 36 33 35,AI 37 33 36 0]
 38 (tm 37),Aa 30 38]
def l8:LSO:=[Ac 6 34]
def l7:LSO:=[Ad 40 2 5,Ab 41 1 40,BF 42 41 1,Ad 43 1 5,Ab 44 1 43,Ar 45 62 42 44,Aa 39 45]
def l6:LSO:=[Ac 6 53]
def l5:LSO:=[Aa 47 0,Ad 48 2 5,Ab 49 1 48,BF 50 49 1,Ar 51 24 47 50,An 52 51 0,Aa 46 52]
def lZ:LSO:=[Ac 6 32]
def kT:LSO:=[Aa 53 0,Ad 54 2 5,Ab 55 1 54,Ar 56 24 53 55,Aa 9 56]
def kS:LSO:=[Aa 57 9,A7 58 57 0,Aa 59 58,.grp none 59 true
 [Ae 60 59 9,Ae 61 59 1,Cv 62 59 60 61]
 63 (tm 62)]
def kR:LSO:=[Ac 6 68]
def kQ:LSO:=[Aa 64 0,Aa 65 1,Bu 66 23 64 65 2,Ah 67 66,Ac 68 0]
def kP:LSO:=[Al 69 68 67]
def kO:LSO:=[Am 70 1 66 68,Ab 71 1 70,Aa 11 71]
def kN:LSO:=[Aa 72 0,Au 73 72,Ad 74 1 73,Ab 75 1 74,Aa 76 11,Bv 77 75 76,Au 78 77,Ad 79 0 78,Ab 80 1 79,Aa 12 80]
def kL:LSO:=[Ad 82 2 5,Ab 83 1 82,Aa 84 12,Aa 85 12,Ah 86 85,Ad 87 1 5,Ab 88 1 87,Ah 89 88,BE 90 86 89,Cm 91 84 90,Ar 92 59 83 91,Aj 93 36 92,Aa 81 93,
 Ao 94 81,Aq 95 81,Aa 13 94,Aa 14 95]
def kK:LSO:=[Aa 96 14,AB 97 96 0]
def kJ:LSO:=[Ac 6 34]
def kI:LSO:=[Ai 98 68 1,Aa 68 98]
def kH:LSO:=[Ac 6 0]
def a7:aK:=⟨99,(ash me [] (ash md CE (.seq (.block 0 (.seq (.sdreg mc [.pure,.pure,(.read 0 0),.pure,(.read 0 0),.pure,(.read 0 0)] CL) (asi 21 (ash ma [] .ret) (ash l9 CA (asi 30 (ash l8 [] .ret) (.seq (.sdreg l7 [.pure,(.read 0 0),(.read 0 0),.pure,(.read 0 0)] CC) (asi 39 (ash l6 [] .ret) (ash l5 CC (asj 46 (.sreg lZ [])))))))))) (.seq (ash kT CA (ash kS C7 (asj 63 (.sreg kR [])))) (.seq (ash kQ CV (ask 1 (ash kP [] (.seq (asl 69 1) (.seq (.block 2 (ash kO C6 (ash kN CG (.seq (.sdreg kL [.pure,(.read 0 0),.pure,.pure,(.read 0 0),.pure,(.read 0 0),(.read 0 0),.pure,(.read 0 0),(.read 0 0),(.read 0 0),.pure,.pure,.pure,.pure] [true,false,false,false,false,false,false,false,false,false,false,false,false,false,false,false,false]) (ash kK C4 (asj 97 (.sreg kJ []))))))) (.sreg kI C4)))))) (ash kH [] .ret)))))),[(.tmp 6)]⟩
attribute [push_cast] me md mc ma l9 l8 l7 l6 l5 lZ kT kS kR kQ kP kO kN kL kK kJ kI kH
theorem b7:asm 124=asn a7:=asq
def t7:LSO:=[Aa 7 0,Au 8 7,Ad 9 0 8,Ab 10 1 9,Au 11 10,Ad 12 1 11,Ab 13 1 12,Aa 14 1,Bv 15 13 14,Aa 6 15]
def tZ:LSO:=[Aa 16 6,Aa 17 6,Aa 18 2,BW 19 59 18,Aa 20 2,Aj 21 125 20,Au 22 16,Ad 23 0 22,Ap 1 23 19,Au 24 17,Ad 25 1 24,Ap 1 25 21]
def tY:List (aw×Kd):=
 [AD 26 0,AP 27 26 0 1,A9 28 0 27,AA 29 1 28 0 1,AP 30 29 0 1,A9 31 2 30,AA 32 1 31 0 1,AD 33 6,AP 34 33 0 0,A9 35 1 34,AA 36 1 35 0 0,od 37 (.call 128 [(tm 36)]) .eff,
 Bd 38 127 37 0 0,od 39 (.call 126 [(tm 38),(.av (.str [44]))]) (.read 0 0),AD 40 1]
def sG:List aw :=
 [⟨none,(.mset .str (tm 32) (tm 39) (tm 40)),none⟩]
def pj:aK:=⟨41,(ash t7 CG (ash tZ De (.dregM tY sG [false,false,false,false,false,false,false,false,false,false,false,false,false,false,false]))),[]⟩
attribute [push_cast] t7 tZ tY sG
theorem Sp:aL Tryz.prog (λr i=>if r=2/\i=11 then 3 else 1) 79=some pj.raw:=asq
def tX:LSO:=[Ay 1 0,o1 2 (.mv (.av .nilfunc))]
def tW:LSO:=[o1 3 (.mkfn 184 [(tm 1)]),Aa 2 3]
def pi:aK:=⟨4,(ash tX [] (ash tW C4 .ret)),[(.tmp 2)]⟩
attribute [push_cast] tX tW
theorem So:asm 128=asn pi:=asq
def pE:LSO:=[Ay 2 0]
def pD:LSO:=[Ab 5 1 1,Aj 6 185 5]
def pB:LSO:=[Aa 4 8]
def pA:LSO:=[Ab 9 1 2,Aa 10 4,B0 11 9 10,A3 12 11]
def lO:aK:=⟨13,(ash pE [] (ash pD C4 (.block 0 (.rangeF (tm 6) [7,8] (.sreg pB []) (.block 1 (ash pA C7 (asi 12 .ret .skip))))))),[]⟩
attribute [push_cast] pE pD pB pA
theorem NM:asm 184=asn lO:=asq
def nM:LSO:=[Aa 7 0,Au 8 7,Ad 9 0 8,Ab 10 1 9,Aa 11 1,BF 12 11 1,Ar 13 24 10 12,Aa 6 13]
def nL:LSO:=[Aa 14 6,A7 15 14 0]
def nK:LSO:=[Aa 16 0,Au 17 16,Ad 18 0 17,Ab 19 1 18,Au 20 19,Ad 21 1 20,Ab 22 1 21,Aa 23 6,Bv 24 22 23,Au 25 24,Ad 26 3 25,Ab 27 1 26,Aa 28 2,AU 29 27 28,
 Au 30 24,Ad 31 3 30,Ap 1 31 29]
def fe:aK:=⟨32,(.seq (.sdreg nM [.pure,(.read 0 0),.pure,(.read 0 0),.pure,(.read 0 0)] CE) (ash nL C4 (asi 15 (.sreg nK [false,false,false,false,false,false,false,false,false,false,false,false,false,false,false,false]) .skip))),[]⟩
attribute [push_cast] nM nL nK
theorem mR:asm 80=asn fe:=asq
def UL:LSO:=[Af 4]
def UK:LSO:=[Aa 10 0,Aj 11 36 10,Aa 9 11,Ao 12 9,Aq 13 9,Aa 5 12,Aa 6 13]
def UJ:LSO:=[Aa 15 1,Aj 16 58 15,Aa 14 16,Ao 17 14,Aq 18 14,Aa 7 17,Aa 8 18]
def UI:LSO:=[Aa 19 6,AB 20 19 0,Aa 21 20,.grp none 21 false
 [Ag 22 21 8,Bi 23 21 22 0]
 24 (tm 23),Aa 25 24,.grp none 25 false
 [Ag 26 25 0,AS 27 25 26,Ag 28 25 1,AS 29 25 28,og 30 25 false (.bin .lss (tm 27) (tm 29))]
 31 (tm 30)]
def UH:LSO:=[Af 4]
def UG:LSO:=[Aa 32 0,Aa 33 0,Ah 34 33,Aa 35 1,Ah 36 35,BE 37 34 36,Cw 38 32 37,o1 39 (.call 85 [(tm 38),(.av (.bool true))]),Aa 40 7,AH 41 39 40,Aa 4 41]
def ie:aK:=⟨42,(ash UL [] (ash UK CC (ash UJ CH (.seq (ash UI CB (asj 31 (.sreg UH []))) (ash UG CY .ret))))),[(.tmp 4)]⟩
attribute [push_cast] UL UK UJ UI UH UG
theorem nA:asm 62=asn ie:=asq
def eT:LSO:=[Ay 1 0,o1 2 (.mv (.av .nilfunc))]
def eS:LSO:=[o1 3 (.mkfn 206 [(tm 1)]),Aa 2 3]
def dB:aK:=⟨4,(ash eT [] (ash eS C4 .ret)),[(.tmp 2)]⟩
attribute [push_cast] eT eS
theorem jx:asm 179=asn dB:=asq
def eC:LSO:=[Ab 4 1 1,Ah 5 4,Ba 6 5 1,Aa 3 6]
def eB:LSO:=[Aa 7 3,AL 8 7 0]
def eA:LSO:=[Aa 11 0,Aa 12 3,Ab 13 1 1,Aa 14 3,Am 15 1 13 14,Ab 16 1 15,BI 17 11 12 16,A3 18 17]
def ez:LSO:=[Aa 9 3,Ba 10 9 1,Aa 3 10]
def dv:aK:=⟨19,(ash eC C7 (ask 0 (.seq (ash eB C4 (asl 8 0)) (.seq (.block 1 (ash eA CE (asi 18 .ret .skip))) (.sreg ez C6))))),[]⟩
attribute [push_cast] eC eB eA ez
theorem jh:asm 206=asn dv:=asq
def fC:LSO:=[Ay 1 0,o1 2 (.mv (.av .nilfunc))]
def fB:LSO:=[o1 3 (.mkfn 209 [(tm 1)]),Aa 2 3]
def dF:aK:=⟨4,(ash fC [] (ash fB C4 .ret)),[(.tmp 2)]⟩
attribute [push_cast] fC fB
theorem jM:asm 185=asn dF:=asq
def eJ:LSO:=[Ab 4 1 1,Ah 5 4,Ba 6 5 1,Aa 3 6]
def eI:LSO:=[Aa 7 3,AL 8 7 0]
def eH:LSO:=[Aa 11 0,Aa 12 3,Ab 13 1 1,Aa 14 3,Am 15 1 13 14,Ab 16 1 15,BI 17 11 12 16,A3 18 17]
def eG:LSO:=[Aa 9 3,Ba 10 9 1,Aa 3 10]
def dy:aK:=⟨19,(ash eJ C7 (ask 0 (.seq (ash eI C4 (asl 8 0)) (.seq (.block 1 (ash eH CE (asi 18 .ret .skip))) (.sreg eG C6))))),[]⟩
attribute [push_cast] eJ eI eH eG
theorem jn:asm 209=asn dy:=asq
def jk:LSO:=[Ak 2]
def jj:LSO:=[Aa 3 0,o1 4 (.call 183 [(.av (.sl [] 0 (some 0))),(tm 3)]),Aa 2 4]
def gQ:aK:=⟨5,(ash jk [] (ash jj C6 .ret)),[(.tmp 2)]⟩
attribute [push_cast] jk jj
theorem tE:asm 127=asn gQ:=asq
def eY:LSO:=[Ay 2 0,Ak 4]
def eX:LSO:=[Aa 6 1]
def eW:LSO:=[Aa 5 7]
def eV:LSO:=[Ab 8 1 2,Aa 9 5,B4 10 9,BK 11 8 10,Ap 1 2 11]
def eU:LSO:=[Ab 12 1 2,Aa 4 12]
def dC:aK:=⟨13,(ash eY [] (.seq (ash eX [] (.block 0 (.rangeF (tm 6) [7] (.sreg eW []) (.block 1 (.sreg eV CN))))) (ash eU C4 .ret))),[(.tmp 4)]⟩
attribute [push_cast] eY eX eW eV eU
theorem jy:aL Tryz.prog (λr i=>if r=3/\i=3 then 2 else 1) 183=some dC.raw:=asq
def gH:LSO:=[Af 4]
def gG:LSO:=[Aa 6 0,Ah 7 6,Aa 8 1,Ah 9 8,Bz 10 7 9]
def gF:LSO:=[Af 4]
def gE:LSO:=[Aa 11 0,Ah 12 11,Ac 13 0]
def gD:LSO:=[Al 14 13 12]
def gC:LSO:=[Aa 15 13,Aa 5 15]
def gz:LSO:=[Aa 16 0,Aa 17 5,Am 18 1 16 17,Ab 19 1 18,Aa 20 1,Aa 21 5,Am 22 1 20 21,Ab 23 1 22,Bz 24 19 23]
def gy:LSO:=[Af 4]
def gx:LSO:=[Ai 25 13 1,Aa 13 25]
def gw:LSO:=[A5 4]
def cg:aK:=⟨26,(ash gH [] (.seq (ash gG CA (asj 10 (.sreg gF []))) (.seq (ash gE CD (ask 0 (ash gD [] (.seq (asl 14 0) (.seq (.block 1 (ash gC C4 (.seq (.sdreg gz [.pure,.pure,(.read 0 0),(.read 0 0),.pure,.pure,(.read 0 0),(.read 0 0)] CL) (asj 24 (.sreg gy []))))) (.sreg gx C4)))))) (ash gw [] .ret)))),[(.tmp 4)]⟩
attribute [push_cast] gH gG gF gE gD gC gz gy gx gw
theorem gk:asm 54=asn cg:=asq
attribute [push_cast] NJ fU NL cO gP a7 pj pi lO fe ie dB dv dF dy gQ dC cg
end Go.Proofs.YtdnfjhflkkpokaaGreatDoor.Av
set_option maxRecDepth 100000
namespace Go.Proofs.YtdnfjhflkkpokaaGreatDoor.Av
open Go
def PW:LSO:=[AT 2,Ac 3 0]
def PV:LSO:=[Aa 7 0,Aj 8 37 7,Aa 6 8,Ao 9 6,Aq 10 6,Aa 4 9,Aa 5 10]
def PU:LSO:=[Aa 11 5,AB 12 11 0]
def PT:LSO:=[Aa 13 5,AT 2,Aa 3 13]
def PR:LSO:=[Aa 14 0,Ah 15 14,An 16 15 0]
def PQ:LSO:=[AT 2,Ac 3 2]
def PP:LSO:=[Aa 17 0,Aj 18 40 17,o1 19 (.build [(.sl [] 0 (some 0)),(.sl [] 0 (some 0)),(.int .i64 0)] [(0,(1,(tm 18)))]),Ay 20 19,Aa 2 20,Ac 3 0]
def iY:aK:=⟨21,(ash PW [] (ash PV CC (.seq (ash PU C4 (asj 12 (.sreg PT CD))) (.seq (ash PR C6 (asj 16 (.sreg PQ []))) (ash PP CP .ret))))),[(.tmp 2),(.tmp 3)]⟩
attribute [push_cast] PW PV PU PT PR PQ PP
theorem tG:asm 32=asn iY:=asq
def vA:LSO:=[Ac 4 0]
def vz:LSO:=[Aa 11 1,Aj 12 89 11,Aa 10 12,Ao 13 10,Aq 14 10,Aa 5 13,Aa 6 14]
def vy:LSO:=[Ac 7 0]
def vx:LSO:=[Aa 15 6,An 16 15 0,Aa 17 16,.grp none 17 true
 [Ae 18 17 7,Ae 19 17 0,Bw 20 17 19,Az 21 17 1 20,A0 22 17 1 21,AE 23 17 22,Cr 24 17 18 23]
 25 (tm 24)]
def vw:LSO:=[Aa 29 0,Au 30 29,Ad 31 1 30,Ab 32 1 31,Aa 33 7,Am 34 3 32 33,Ad 35 1 34,Ab 36 1 35,Aj 37 89 36,Aa 28 37,Ao 38 28,Aq 39 28,Aa 8 38,Aa 9 39]
def vv:LSO:=[Aa 40 5,Aa 41 8,AH 42 40 41]
def vu:LSO:=[Aa 43 7,Aa 4 43]
def vt:LSO:=[Aa 26 7,Ai 27 26 1,Aa 7 27]
def vr:LSO:=[Ac 4 (-1)]
def iF:aK:=⟨44,(ash vA [] (ash vz CH (.seq (ash vy [] (ask 0 (.seq (ash vx C7 (asl 25 0)) (.seq (.block 1 (ash vw [false,true,false,false,false,false,false,false,false,false,false,false,false,false] (ash vv C6 (asj 42 (.sreg vu C4))))) (.sreg vt C6))))) (ash vr [] .ret)))),[(.tmp 4)]⟩
attribute [push_cast] vA vz vy vx vw vv vu vt vr
theorem tF:asm 82=asn iF:=asq
def qQ:LSO:=[Ac 4 0]
def qP:LSO:=[Aa 6 0,Au 7 6,Ad 8 1 7,Ab 9 1 8,Ah 10 9,Ac 11 0]
def qO:LSO:=[Al 12 11 10]
def qN:LSO:=[Aa 13 11,Aa 5 13]
def qM:LSO:=[Aa 14 0,Au 15 14,Ad 16 1 15,Ab 17 1 16,Aa 18 5,Am 19 3 17 18,Ad 20 0 19,Ab 21 1 20,Aa 22 1,AH 23 21 22]
def qL:LSO:=[Aa 24 5,Aa 4 24]
def qK:LSO:=[Ai 25 11 1,Aa 11 25]
def qJ:LSO:=[Ac 4 (-1)]
def lS:aK:=⟨26,(ash qQ [] (.seq (ash qP CP (ask 0 (ash qO [] (.seq (asl 12 0) (.seq (.block 1 (ash qN C4 (ash qM CG (asj 23 (.sreg qL C4))))) (.sreg qK C4)))))) (ash qJ [] .ret))),[(.tmp 4)]⟩
attribute [push_cast] qQ qP qO qN qM qL qK qJ
theorem NP:asm 186=asn lS:=asq
def qH:LSO:=[Ac 4 0]
def qG:LSO:=[Aa 8 0,Aa 9 1,Ar 10 186 8 9,Aa 5 10]
def qF:LSO:=[Ac 6 0]
def qE:LSO:=[Aa 11 0,Au 12 11,Ad 13 1 12,Ab 14 1 13,Ah 15 14,Ac 16 0]
def qD:LSO:=[Al 17 16 15]
def qC:LSO:=[Aa 18 16,Aa 7 18]
def qB:LSO:=[Aa 19 5,AL 20 19 0,Aa 21 20,.grp none 21 true
 [Ae 22 21 0,Bw 23 21 22,Az 24 21 1 23,A0 25 21 1 24,Ae 26 21 7,Bf 27 21 3 25 26,Az 28 21 1 27,A0 29 21 1 28,AE 30 21 29,Ae 31 21 0,Bw 32 21 31,Az 33 21 1 32,A0 34 21 1 33,
 Ae 35 21 5,Bf 36 21 3 34 35,Az 37 21 1 36,A0 38 21 1 37,AE 39 21 38,Cg 40 21 39 1,B7 41 21 30 40]
 42 (tm 41),Aa 43 42,.grp none 43 true
 [Ae 44 43 0,Bw 45 43 44,Az 46 43 1 45,A0 47 43 1 46,Ae 48 43 7,Bf 49 43 3 47 48,Az 50 43 1 49,A0 51 43 1 50,Ae 52 43 0,Bw 53 43 52,Az 54 43 1 53,A0 55 43 1 54,Ae 56 43 5,
 Bf 57 43 3 55 56,Az 58 43 1 57,A0 59 43 1 58,AN 60 43 38 51 59]
 61 (tm 60)]
def qA:LSO:=[Aa 62 6,Ai 63 62 1,Aa 6 63]
def qz:LSO:=[Ai 64 16 1,Aa 16 64]
def qw:LSO:=[Aa 65 6,Aa 4 65]
def fX:aK:=⟨66,(ash qH [] (ash qG C7 (ash qF [] (.seq (ash qE CP (ask 0 (ash qD [] (.seq (asl 17 0) (.seq (.block 1 (ash qC C4 (.seq (.sdreg qB [.pure,.pure,.pure,.pure,(.read 0 0),.pure,(.read 0 0),.pure,(.read 0 0),.pure,(.read 0 0),(.read 0 0),.pure,(.read 0 0),.pure,(.read 0 0),.pure,(.read 0 0),.pure,(.read 0 0),(.read 0 0),.pure,.pure,.pure,.pure,.pure,(.read 0 0),.pure,(.read 0 0),.pure,(.read 0 0),.pure,(.read 0 0),.pure,(.read 0 0),.pure,(.read 0 0),.pure,(.read 0 0),.pure,(.read 0 0)] CB) (asi 61 (.sreg qA C6) .skip)))) (.sreg qz C4)))))) (ash qw C4 .ret))))),[(.tmp 4)]⟩
attribute [push_cast] qH qG qF qE qD qC qB qA qz qw
theorem o8:asm 130=asn fX:=asq
def Kf:LSO:=[Af 4]
def Ke:LSO:=[Aa 5 0,Ah 6 5,Aa 7 1,Ah 8 7,AH 9 6 8,Aa 10 9,.grp none 10 true
 [Ae 11 10 0,Ae 12 10 1,AN 13 10 38 11 12]
 14 (tm 13),Aa 4 14]
def lR:aK:=⟨15,(ash Kf [] (ash Ke CE .ret)),[(.tmp 4)]⟩
attribute [push_cast] Kf Ke
theorem JJ:asm 129=asn lR:=asq
def F8:LSO:=[Ak 6]
def F7:LSO:=[Ak 7]
def F6:LSO:=[Aa 8 7,Aa 9 0,Aa 10 0,Ah 11 10,Aa 12 1,BE 13 11 12,Cm 14 9 13,Bh 15 8 14,Aa 7 15]
def F5:LSO:=[Aa 16 7,Aa 17 2,Bh 18 16 17,Aa 6 18]
def wB:aK:=⟨19,(ash F8 [] (ash F7 [] (ash F6 CL (ash F5 C7 .ret)))),[(.tmp 6)]⟩
attribute [push_cast] F8 F7 F6 F5
theorem Wu:asm 83=asn wB:=asq
def q9:LSO:=[Ay 3 1,Ac 4 0]
def qZ:LSO:=[Ad 14 0 3,Ab 15 1 14,AJ 16 15 1,Aa 17 16,.grp none 17 false
 [A8 18 17 0 3,A6 19 17 1 18,AC 20 17 19 4]
 21 (tm 20)]
def qY:LSO:=[Ac 4 1]
def qX:LSO:=[Aa 22 0,Ad 23 1 3,Ab 24 1 23,Ar 25 82 22 24,Aa 5 25]
def qW:LSO:=[Ad 26 0 3,Ab 27 1 26,An 28 27 1]
def qV:LSO:=[Ad 30 1 3,Ab 31 1 30,Aj 32 37 31,Aa 29 32,Ao 33 29,Aq 34 29,Aa 6 33,Aa 7 34]
def qU:LSO:=[Aa 35 7,AB 36 35 0]
def qT:LSO:=[Ac 4 34]
def qS:LSO:=[Aa 37 5,AL 38 37 0]
def qR:LSO:=[Ac 4 68]
def oC:LSO:=[Ad 39 1 3,Ab 40 1 39,Aa 41 0,Au 42 41,Ad 43 0 42,Ab 44 1 43,Ar 45 129 40 44,A3 46 45,Aa 47 46,.grp none 47 true
 [Az 48 47 1 3,A0 49 47 1 48,AE 50 47 49,AO 51 47 50 0,Ae 52 47 51,.grp (some (47,true)) 52 false
 [Ag 53 52 0,A8 54 52 1 3,A6 55 52 1 54,og 56 52 false (.slV 1 (tm 55) (some (iv 1)) none none),Cx 57 52 82 53 56,Bp 58 52 57 0]
 59 (tm 58)]
 60 (tm 59)]
def oB:LSO:=[Ac 4 32]
def oA:LSO:=[Aa 61 0,Au 62 61,Ad 63 1 62,Ab 64 1 63,Ah 65 64,AL 66 65 4096]
def oz:LSO:=[Ac 4 80]
def oy:LSO:=[Ac 4 0]
def ox:LSO:=[Aa 67 5,AJ 68 67 0]
def ow:LSO:=[Ac 4 32]
def ov:LSO:=[Ad 69 0 3,Ab 70 1 69,An 71 70 2,Aa 72 71,.grp none 72 true
 [Ae 73 72 0,Ae 74 72 0,Bw 75 72 74,Az 76 72 1 75,A0 77 72 1 76,Ae 78 72 5,Bf 79 72 3 77 78,Az 80 72 0 79,A0 81 72 1 80,AN 82 72 130 73 81,BC 83 72 82 0]
 84 (tm 83)]
def ou:LSO:=[Ac 4 66]
def ot:LSO:=[Ad 85 0 3,Ab 86 1 85,An 87 86 4]
def oq:LSO:=[Ad 89 2 3,Ab 90 1 89,Aj 91 37 90,Aa 88 91,Ao 92 88,Aq 93 88,Aa 8 92,Aa 9 93]
def oo:LSO:=[Ad 94 1 3,Ab 95 1 94,Aa 96 0,Au 97 96,Ad 98 0 97,Ab 99 1 98,Ar 100 129 95 99]
def om:LSO:=[Ac 4 53]
def ol:LSO:=[Aa 101 9,AB 102 101 0,Aa 103 102,.grp none 103 false
 [A8 104 103 2 3,A6 105 103 1 104,AS 106 103 105,AI 107 103 106 0]
 108 (tm 107)]
def oj:LSO:=[Ac 4 34]
def oi:LSO:=[Ad 109 2 3,Ab 110 1 109,BF 111 110 1,Ad 112 1 3,Ab 113 1 112,Ar 114 38 111 113]
def oh:LSO:=[Ac 4 53]
def oe:LSO:=[Aa 115 0,Ad 116 2 3,Ab 117 1 116,BF 118 117 1,Ar 119 82 115 118,AJ 120 119 0]
def oc:LSO:=[Ac 4 32]
def n9:LSO:=[Aa 121 0,Ad 122 2 3,Ab 123 1 122,Ar 124 82 121 123,AL 125 124 0,Aa 126 125,.grp none 126 true
 [Ae 127 126 0,Az 128 126 2 3,A0 129 126 1 128,AN 130 126 82 127 129,Ae 131 126 5,Cv 132 126 130 131]
 133 (tm 132)]
def n8:LSO:=[Ac 4 68]
def n7:LSO:=[Aa 134 0,Au 135 134,Ad 136 1 135,Ab 137 1 136,Ah 138 137,Ac 139 0]
def nZ:LSO:=[Al 140 139 138]
def nY:LSO:=[Am 141 3 137 139,As 142 3 141,o1 11 (.alloc [(.int .i64 0),(.sl [] 0 (some 0)),(.sl [] 0 (some 0))]),Ap 3 11 142]
def nX:LSO:=[Ad 143 1 11,Ab 144 1 143,Ad 145 1 3,Ab 146 1 145,Ar 147 38 144 146]
def nW:LSO:=[Ad 149 1 11,Ab 150 1 149,Ad 151 1 3,Ab 152 1 151,Ah 153 152,Ad 154 2 3,Ab 155 1 154,AF 156 83 150 153 155,Aj 157 37 156,Aa 148 157,Ao 158 148,
 Aq 159 148,Aa 12 158,Aa 13 159]
def nV:LSO:=[Aa 160 13,AB 161 160 0]
def nU:LSO:=[Ac 4 34]
def nT:LSO:=[Ai 162 139 1,Aa 139 162]
def nS:LSO:=[Ac 4 0]
def ao:aK:=⟨163,(ash q9 [] (.seq (ash qZ CA (asj 21 (.sreg qY []))) (ash qX CA (.seq (ash qW C6 (asi 28 (ash qV CE (.seq (ash qU C4 (asj 36 (.sreg qT []))) (.seq (ash qS C4 (asj 38 (.sreg qR []))) (.seq (.seq (.sdreg oC [.pure,(.read 0 0),.pure,(.read 0 0),.pure,(.read 0 0),(.read 0 0),.pure,.pure,.pure,(.read 0 0),(.read 0 0),.pure,.pure,.pure,.pure,(.read 0 0),(.read 0 0)] CG) (asj 60 (.sreg oB []))) (.seq (ash oA CB (asj 66 (.sreg oz []))) (ash oy [] .ret)))))) .skip)) (.seq (ash ox C4 (asj 68 (.sreg ow []))) (.seq (ash ov CA (asj 84 (.sreg ou []))) (.seq (ash ot C6 (asi 87 (ash oq CE (.seq (.seq (.sdreg oo [.pure,(.read 0 0),.pure,(.read 0 0),.pure,(.read 0 0)] CC) (asj 100 (.sreg om []))) (.seq (ash ol C7 (asj 108 (.sreg oj []))) (.seq (.seq (.sdreg oi [.pure,(.read 0 0),(.read 0 0),.pure,(.read 0 0)] CB) (asj 114 (.sreg oh []))) (.seq (ash oe CB (asj 120 (.sreg oc []))) (.seq (ash n9 CC (asj 133 (.sreg n8 []))) (ash n7 CU (ask 0 (ash nZ [] (.seq (asl 140 0) (.seq (.block 1 (ash nY C6 (ash nX CA (asi 147 (ash nW Dj (ash nV C4 (asj 161 (.sreg nU [])))) .skip)))) (.sreg nT C4)))))))))))) .skip)) (ash nS [] .ret)))))))),[(.tmp 4)]⟩
attribute [push_cast] q9 qZ qY qX qW qV qU qT qS qR oC oB oA oz oy ox ow ov ou ot oq oo om ol oj oi oh oe oc n9 n8 n7 nZ nY nX nW nV nU nT nS
theorem az:asm 81=asn ao:=asq
def vq:LSO:=[Ay 3 1,Ac 4 0]
def vp:LSO:=[Aa 10 0,As 11 4 3,Ar 12 81 10 11,Aa 5 12]
def vm:LSO:=[Aa 13 5,AB 14 13 0]
def vk:LSO:=[Aa 15 5,Aa 4 15]
def vj:LSO:=[Aa 16 0,Ad 17 1 3,Ab 18 1 17,Ar 19 82 16 18,Aa 6 19]
def vh:LSO:=[Ak 7]
def vg:LSO:=[Aa 20 0,Au 21 20,Ad 22 1 21,Ab 23 1 22,Ah 24 23,Ac 25 0]
def vf:LSO:=[Al 26 25 24]
def ve:LSO:=[Aa 27 25,Am 28 3 23 25,As 29 3 28,o1 9 (.alloc [(.int .i64 0),(.sl [] 0 (some 0)),(.sl [] 0 (some 0))]),Aa 8 27,Ap 3 9 29]
def vd:LSO:=[Ad 30 0 3,Ab 31 1 30,An 32 31 4,Aa 33 32,.grp none 33 true
 [Az 34 33 1 9,A0 35 33 1 34,Az 36 33 1 3,A0 37 33 1 36,AN 38 33 38 35 37]
 39 (tm 38)]
def tf:LSO:=[Ad 40 1 9,Ab 41 1 40,Ad 42 1 3,Ab 43 1 42,Ah 44 43,Ad 45 2 3,Ab 46 1 45,AF 47 83 41 44 46,Aj 48 40 47,Ad 49 1 9,Ap 1 49 48]
def td:LSO:=[Aa 50 8,Aa 51 6,AH 52 50 51,Aa 53 52,.grp none 53 true
 [Az 54 53 0 3,A0 55 53 1 54,AO 56 53 55 3,Ae 57 53 56,.grp (some (53,true)) 57 false
 [A8 58 57 0 3,A6 59 57 1 58,AI 60 57 59 4]
 61 (tm 60)]
 62 (tm 61)]
def tc:LSO:=[Ad 63 3 3,Ab 64 1 63,Aj 65 16 64,Ad 66 2 9,Ap 1 66 65]
def ta:LSO:=[Aa 67 8,Aa 68 6,Bz 69 67 68,Aa 70 69,.grp none 70 false
 [A8 71 70 0 3,A6 72 70 1 71,Bi 73 70 72 2]
 74 (tm 73)]
def sZ:LSO:=[Aa 75 7,As 76 3 9,o1 77 (.bslice false 3 1 [(.int .i64 0),(.sl [] 0 (some 0)),(.sl [] 0 (some 0))] [(0,(3,(tm 76)))]),
 o1 78 (.app 1 3 56 [(.int .i64 0),(.sl [] 0 (some 0)),(.sl [] 0 (some 0))] (tm 75) (tm 77)),Aa 7 78]
def sY:LSO:=[Ai 79 25 1,Aa 25 79]
def sX:LSO:=[Ad 80 0 3,Ab 81 1 80,An 82 81 1]
def sW:LSO:=[Aa 83 0,Au 84 83,Ad 85 2 84,Ab 86 1 85,Ai 87 86 1,Au 88 83,Ad 89 2 88,Ap 1 89 87]
def sV:List (aw×Kd):=
 [AD 90 7,AD 91 0,AP 92 91 0 0,A9 93 2 92,AA 94 1 93 0 0,A9 95 1 3,AA 96 1 95 0 0,Bd 97 40 96 0 0,A9 98 3 3,AA 99 1 98 0 0,Bd 100 16 99 0 0,
 od 101 (.build [(.int .i64 0),(.sl [] 0 (some 0)),(.sl [] 0 (some 0))] [(0,(1,(tm 94))),(1,(1,(tm 97))),(2,(1,(tm 100)))]) .pure,
 od 102 (.bslice false 3 1 [(.int .i64 0),(.sl [] 0 (some 0)),(.sl [] 0 (some 0))] [(0,(3,(tm 101)))]) (.read 0 0)]
def qI:List aw :=
 [⟨(some 103),(.app 1 3 56 [(.int .i64 0),(.sl [] 0 (some 0)),(.sl [] 0 (some 0))] (tm 90) (tm 102)),none⟩,⟨(some 7),(.mv (tm 103)),none⟩]
def sU:LSO:=[Aa 104 0,Aa 105 7,Au 106 104,Ad 107 1 106,Ap 1 107 105]
def sT:LSO:=[Ac 4 0]
def cq:aK:=⟨108,(ash vq [] (ash vp C7 (.seq (ash vm C4 (asj 14 (.sreg vk C4))) (ash vj CA (ash vh [] (.seq (ash vg CU (ask 0 (ash vf [] (.seq (asl 26 0) (.seq (.block 1 (ash ve CF (.seq (ash vd CA (asi 39 (.sreg tf De) .skip)) (.seq (ash td CA (asi 62 (.sreg tc CN) .skip)) (ash ta CA (asi 74 (.sreg sZ CA) .skip)))))) (.sreg sY C4)))))) (.seq (ash sX C6 (asi 82 (ash sW CT (.dregM sV qI Dm)) .skip)) (ash sU CN (ash sT [] .ret))))))))),[(.tmp 4)]⟩
attribute [push_cast] vq vp vm vk vj vh vg vf ve vd tf td tc ta sZ sY sX sW sV qI sU sT
theorem fg:asm 35=asn cq:=asq
def HH:LSO:=[Af 4]
def HG:LSO:=[Aa 10 0,Aj 11 37 10,Aa 9 11,Ao 12 9,Aq 13 9,Aa 5 12,Aa 6 13]
def HF:LSO:=[Aa 15 1,Aj 16 89 15,Aa 14 16,Ao 17 14,Aq 18 14,Aa 7 17,Aa 8 18]
def HE:LSO:=[Aa 19 6,AB 20 19 0,Aa 21 20,.grp none 21 false
 [Ag 22 21 8,Bi 23 21 22 0]
 24 (tm 23),Aa 25 24,.grp none 25 false
 [Ag 26 25 0,AS 27 25 26,Ag 28 25 1,AS 29 25 28,og 30 25 false (.bin .lss (tm 27) (tm 29))]
 31 (tm 30)]
def HD:LSO:=[Af 4]
def HC:LSO:=[Aa 32 0,Aa 33 0,Ah 34 33,Aa 35 1,Ah 36 35,BE 37 34 36,Cw 38 32 37,Aj 39 90 38,Aj 40 88 39,Aa 41 7,AH 42 40 41,Aa 4 42]
def dM:aK:=⟨43,(ash HH [] (ash HG CC (ash HF CH (.seq (ash HE CB (asj 31 (.sreg HD []))) (ash HC CK .ret))))),[(.tmp 4)]⟩
attribute [push_cast] HH HG HF HE HD HC
theorem ji:asm 38=asn dM:=asq
def Mf:LSO:=[Af 4]
def Me:LSO:=[Aa 7 0,Ah 8 7,Aa 9 1,Ah 10 9,Bz 11 8 10]
def Md:LSO:=[Af 4]
def Mc:LSO:=[Aa 12 0,Ah 13 12,Ac 14 0]
def Mb:LSO:=[Al 15 14 13]
def Ma:LSO:=[Aa 16 14,Aa 5 16]
def L9:LSO:=[Aa 17 0,Aa 18 5,Am 19 1 17 18,Ab 20 1 19,Ah 21 20,Aa 22 1,Aa 23 5,Am 24 1 22 23,Ab 25 1 24,Ah 26 25,Bz 27 21 26]
def L8:LSO:=[Af 4]
def L7:LSO:=[Aa 28 0,Aa 29 5,Am 30 1 28 29,Ab 31 1 30,Ah 32 31,Ac 33 0]
def L6:LSO:=[Al 34 33 32]
def HN:LSO:=[Aa 35 33,Aa 6 35]
def HM:LSO:=[Aa 36 0,Aa 37 5,Am 38 1 36 37,Ab 39 1 38,Aa 40 6,Am 41 2 39 40,As 42 2 41,Aa 43 1,Aa 44 5,Am 45 1 43 44,Ab 46 1 45,Aa 47 6,Am 48 2 46 47,As 49 2 48,
 o1 50 (.eq2 true (tm 42) (tm 49))]
def HL:LSO:=[Af 4]
def HK:LSO:=[Ai 51 33 1,Aa 33 51]
def HJ:LSO:=[Ai 52 14 1,Aa 14 52]
def HI:LSO:=[A5 4]
def Fd:aK:=⟨53,(ash Mf [] (.seq (ash Me CA (asj 11 (.sreg Md []))) (.seq (ash Mc CD (ask 0 (ash Mb [] (.seq (asl 15 0) (.seq (.block 1 (ash Ma C4 (.seq (.seq (.sdreg L9 [.pure,.pure,(.read 0 0),(.read 0 0),(.read 0 0),.pure,.pure,(.read 0 0),(.read 0 0),(.read 0 0)] CY) (asj 27 (.sreg L8 []))) (ash L7 CP (ask 2 (ash L6 [] (.seq (asl 34 2) (.seq (.block 3 (ash HN C4 (.seq (.sdreg HM [.pure,.pure,(.read 0 0),(.read 0 0),.pure,(.read 0 0),(.read 0 0),.pure,.pure,(.read 0 0),(.read 0 0),.pure,(.read 0 0),(.read 0 0)] Dm) (asj 50 (.sreg HL []))))) (.sreg HK C4))))))))) (.sreg HJ C4)))))) (ash HI [] .ret)))),[(.tmp 4)]⟩
attribute [push_cast] Mf Me Md Mc Mb Ma L9 L8 L7 L6 HN HM HL HK HJ HI
theorem Yb:asm 12=asn Fd:=asq
def LZ:LSO:=[Ak 2]
def LY:LSO:=[Ak 3]
def LX:LSO:=[Aa 6 0,Ah 7 6,Ac 8 0]
def LW:LSO:=[Al 9 8 7]
def LV:LSO:=[Am 10 1 6 8,Ab 11 1 10,Aa 5 11]
def LU:LSO:=[Aa 12 3,o1 13 (.bslice false 2 0 [] []),Aa 14 5,o1 15 (.app 0 2 32 [(.str []),(.str [])] (tm 13) (tm 14)),Bl 16 15,Bh 17 12 16,Aa 3 17]
def LT:LSO:=[Ai 18 8 1,Aa 8 18]
def LS:LSO:=[Aa 19 3,Aa 2 19]
def Fc:aK:=⟨20,(ash LZ [] (ash LY [] (.seq (ash LX [] (ask 0 (ash LW [] (.seq (asl 9 0) (.seq (.block 1 (ash LV C6 (.sreg LU CC))) (.sreg LT C4)))))) (ash LS C4 .ret)))),[(.tmp 2)]⟩
attribute [push_cast] LZ LY LX LW LV LU LT LS
theorem Ya:aL Tryz.prog (λr i=>if r=5/\i=3 then 0 else 1) 40=some Fc.raw:=asq
attribute [push_cast] iY iF lS fX lR wB ao cq dM Fd Fc
end Go.Proofs.YtdnfjhflkkpokaaGreatDoor.Av
