/- Joined texts of the walk, made small by a program. -/
import Derived.Test.YtdnfjhflkkpokaaGreatDoorKk4
import Derived.Test.YtdnfjhflkkpokaaGreatDoorRows
import Derived.KernelRfl
import Derived.Test.YtdnfjhflkkpokaaGreatDoorKk7
import Derived.Laws.Externs
import Derived.Lib.Overlaps
import Derived.Test.YtdnfjhflkkpokaaGreatDoorKk5
import Derived.Test.YtdnfjhflkkpokaaGreatDoorKk6
import Derived.Test.YtdnfjhflkkpokaaGreatDoorKk8
import Derived.Shelf.Strings.Builder1
import Derived.Shelf.Strings.Builder2
import Derived.Shelf.Strings.OnBuilder
import Derived.Shelf.Small.Bits
import Derived.Shelf.Small.Strs
import Derived.Shelf.Strconv.Itoa0
import Derived.Shelf.Strconv.Itoa1
import Derived.Shelf.LaysM
import Derived.Shelf.Strconv.Itoa2
import Derived.Shelf.Strconv.Itoa3
import Derived.Shelf.Strconv.Itoa4
import Derived.Shelf.Strconv.ParseIntEmpty
import Derived.Shelf.Strconv.Clone
import Derived.Shelf.Strconv.SyntaxError
import Derived.Shelf.LaysC
import Derived.Shelf.Strconv.ToError
import Derived.Shelf.Strconv.Lower
import Derived.Shelf.Strconv.ParseUint10
import Derived.Shelf.Strconv.ParseUint10Empty
import Derived.Shelf.Strconv.ParseUint10Any
import Derived.Shelf.Strconv.ParseInt10
import Derived.Shelf.Strconv.RangeError
import Derived.Shelf.Strconv.ToErrorRange
import Derived.Shelf.Strconv.ParseUintEmpty
import Derived.Shelf.Strconv.ParseUint10b64
import Derived.Shelf.Strconv.ParseUint10b32
import Derived.Shelf.Strconv.ParseUint10b16
import Derived.Shelf.Strconv.ParseUint10b8
import Derived.Shelf.Strconv.ParseUint10At
import Derived.Shelf.Strconv.ParseInt10At64
import Derived.Shelf.Strconv.ParseInt10At32
import Derived.Shelf.Strconv.ParseInt10At16
import Derived.Shelf.Strconv.ParseInt10At8
import Derived.Shelf.Strconv.ParseInt10All
import Derived.Shelf.Strconv.ParseIntPublic10
import Derived.Shelf.Strconv.ErrVarParseInt
import Derived.Shelf.Strings.Search1
import Derived.Shelf.Strings.Search2
import Derived.Shelf.Strings.Search3
import Derived.Shelf.Strings.Cut
import Derived.Shelf.Strings.Shaped
import Derived.Shelf.Sort.Plain
import Derived.Shelf.GgClosure.StringsIndexFunc
import Derived.Ground.GgwProg
import Derived.Shelf.GgClosure.StringsIndexFuncTop
import Derived.Shelf.GgClosure.StringsRunes
import Derived.Shelf.Strings.Prefix
import Derived.Shelf.Slices.Equal
import Derived.Ground.Names2Prog
import Derived.Shelf.Slices.Clone
import Derived.Shelf.Slices.In.SortNone
import Derived.Ground.SlsfProg
import Derived.Shelf.SlSortCmp.Insertion
import Derived.Shelf.SlSortCmp.SiftDown1
import Derived.Shelf.SlSortCmp.HeapSort1
import Derived.Shelf.SlSortCmp.Insertion1
import Derived.Shelf.SlSortCmp.Median1
import Derived.Shelf.SlSortCmp.Pivot1
import Derived.Shelf.SlSortCmp.ReverseRange1
import Derived.Shelf.SlSortCmp.PartialInsertion1
import Derived.Shelf.SlSortCmp.PartitionEqual1
import Derived.Shelf.SlSortCmp.Partition1
import Derived.Shelf.SlSortCmp.Pdq1
import Derived.Shelf.SlSortCmp.Whole1
import Derived.Shelf.Spec.SlicesGrow
import Derived.Ground.Names8Prog
import Derived.Test.YtdnfjhflkkpokaaGreatDoorProg
set_option linter.unusedSimpArgs false
set_option linter.unusedVariables false
set_option maxRecDepth 100000
namespace Go.Proofs.YtdnfjhflkkpokaaGreatDoor.Av
open Go
def ST:LSO:=[A5 3 0,AP 6,Ad 7 0]
def SS:LSO:=[Aa 19 1,Ai 20 36 19,Aa 18 20,Ap 21 18,Aq 22 18,Aa 8 21,Aa 9 22]
def SR:LSO:=[Aa 23 9,A8 24 23 0]
def SQ:LSO:=[Aa 25 9,AP 6,Aa 7 25]
def SP:LSO:=[Aa 26 1,BJ 27 59 26,o1 28 (.build [(.sl [] 0 (some 0)),(.sl [] 0 (some 0))] [(0,(1,(tm 27)))]),A5 29 28,Aa 10 29]
def SO:LSO:=[Aa 30 2,Af 31 30,Ad 32 0]
def SN:LSO:=[Al 33 32 31]
def SM:LSO:=[Am 34 6 30 32,Ar 35 6 34,o1 12 (.alloc [(.int .i64 0),(.str []),(.str []),(.str []),(.int .i64 0),(.bool false)]),An 6 12 35]
def SJ:LSO:=[Ac 36 0 12,Ab 37 1 36,AT 38 37 0,Aa 39 38,.grp none 39 false
 [AA 40 39 0 12,AB 41 39 1 40,AF 42 39 41 4]
 43 (tm 42)]
def SI:LSO:=[AP 6,Ad 7 24]
def QR:LSO:=[Ac 45 1 12,Ab 46 1 45,Ai 47 77 46,Aa 44 47,Ap 48 44,Aq 49 44,Aa 13 48,Aa 14 49]
def QQ:LSO:=[Aa 50 14,A8 51 50 0]
def QP:LSO:=[Aa 52 14,AP 6,Aa 7 52]
def QO:LSO:=[Ac 53 0 12,Ab 54 1 53,AT 55 54 3,Aa 56 55,.grp none 56 true
 [Ae 57 56 13,AI 58 56 57,BB 59 56 58 0]
 60 (tm 59)]
def QN:LSO:=[AP 6,Ad 7 2]
def QM:LSO:=[Ac 62 2 12,Ab 63 1 62,Ai 64 77 63,Aa 61 64,Ap 65 61,Aq 66 61,Aa 15 65,Aa 14 66]
def QL:LSO:=[Aa 67 14,A8 68 67 0]
def QK:LSO:=[Aa 69 14,AP 6,Aa 7 69]
def QJ:LSO:=[Ar 71 2 3,Ac 72 3 12,Ab 73 1 72,Au 74 45 71 73,Aa 70 74,Ap 75 70,Aq 76 70,B5 16,An 4 16 75,Aa 17 76]
def QI:LSO:=[Ac 77 3 12,Ab 78 1 77,o1 79 (.bin .neq (tm 78) (.av (.str []))),Aa 80 79,.grp none 80 true
 [Ae 81 80 17,Bt 82 80 81]
 83 (tm 82)]
def QH:LSO:=[AP 6,Ad 7 20]
def QG:LSO:=[Ac 84 4 12,Ab 85 1 84,AT 86 85 1,Aa 87 86,.grp none 87 false
 [AA 88 87 4 12,AB 89 87 1 88,AF 90 87 89 15]
 91 (tm 90)]
def QF:LSO:=[AP 6,Ad 7 23]
def QE:List (aw×Kd):=
 [AC 92 10,AC 93 10,AN 94 93 0 0,A0 95 1 94,A3 96 1 95 0 0,od 97 (.load true 6 (tm 12)) (.read 0 0),AC 98 13,AC 99 15,
 od 100 (.build [(.int .i64 0),(.str []),(.str []),(.str []),(.int .i64 0),(.bool false),(.sl [] 0 (some 0)),(.sl [] 0 (some 0))] [(0,(6,(tm 97))),(6,(1,(tm 98))),(7,(1,(tm 99)))]) .pure,
 od 101 (.bslice false 8 1 [(.int .i64 0),(.str []),(.str []),(.str []),(.int .i64 0),(.bool false),(.sl [] 0 (some 0)),(.sl [] 0 (some 0))] [(0,(8,(tm 100)))]) (.read 0 0),
 od 102 (.app 1 8 120 [(.int .i64 0),(.str []),(.str []),(.str []),(.int .i64 0),(.bool false),(.sl [] 0 (some 0)),(.sl [] 0 (some 0))] (tm 96) (tm 101)) .eff]
def NS:List aw :=
 [⟨(some 103),(.nilchk (tm 92)),none⟩,⟨(some 104),(.faddr 1 (tm 103)),none⟩,⟨none,(.store 1 (tm 104) (tm 102)),none⟩]
def QD:LSO:=[Ah 105 32 1,Aa 32 105]
def QC:LSO:=[Aa 106 10,Aa 6 106,Ad 7 0]
def xK:aQ:=⟨107,(amF ST [] (.seq (amF SS Cr (amF SR Cl (amH 24 (.sreg SQ Cs)))) (amF SP Co (.seq (amF SO [] (amI 0 (amF SN [] (.seq (amJ 33 0) (.seq (.block 1 (amF SM Cm (.seq (amF SJ Co (amH 43 (.sreg SI []))) (amF QR CF (.seq (amF QQ Cl (amH 51 (.sreg QP Cs))) (.seq (amF QO Co (amH 60 (.sreg QN []))) (amF QM CF (.seq (amF QL Cl (amH 68 (.sreg QK Cs))) (.seq (amF QJ Cz (amF QI Co (amH 83 (.sreg QH [])))) (.seq (amF QG Co (amH 91 (.sreg QF []))) (.dregM QE NS [false,false,false,false,false,false,false,false,false,false,false,false,false]))))))))))) (.sreg QD Cl)))))) (amF QC Cs .ret))))),[(.tmp 6),(.tmp 7)]⟩
attribute [push_cast] ST SS SR SQ SP SO SN SM SJ SI QR QQ QP QO QN QM QL QK QJ QI QH QG QF QE NS QD QC
theorem Rk:amK 33=amL xK:=amO
def QB:LSO:=[Aj 4]
def QA:LSO:=[Aa 5 0,Af 6 5,Aa 7 1,Af 8 7,AD 9 6 8,Aa 10 9,.grp none 10 true
 [Ae 11 10 0,Ae 12 10 1,AE 13 10 62 11 12]
 14 (tm 13),Aa 4 14]
def OF:aQ:=⟨15,(amF QB [] (amF QA Ct .ret)),[(.tmp 4)]⟩
attribute [push_cast] QB QA
theorem Wk:amK 61=amL OF:=amO
def oH:LSO:=[A5 3 0,Aj 6]
def oG:LSO:=[Ac 7 0 3,Ac 8 0 7,Ab 9 1 8]
def oF:LSO:=[Ao 11 9 1,Aa 10 11]
def oE:LSO:=[Aa 12 1,Af 13 12,A9 14 13 0,Aa 6 14]
def oD:LSO:=[Ao 16 9 2,Aa 15 16]
def oC:LSO:=[Aa 17 1,Aa 18 2,Au 19 61 17 18,Aa 6 19]
def oB:LSO:=[Ao 21 9 3,Aa 20 21]
def oA:LSO:=[Aa 22 1,Ac 23 6 3,Ab 24 1 23,Au 25 61 22 24,Aa 6 25]
def oz:LSO:=[Ao 27 9 4,Aa 26 27]
def oy:LSO:=[Aa 28 1,Af 29 28,A9 30 29 0,Aa 31 30,.grp none 31 true
 [Ae 32 31 1,Ay 33 31 6 3,Az 34 31 1 33,AE 35 31 62 32 34]
 36 (tm 35),Aa 6 36]
def lT:LSO:=[A6 6]
def jz:aQ:=⟨37,(amF oH [] (.seq (amF oG Cm (.block 0 (amF oF Cl (amG 10 (amF oE Cp .ret) (amF oD Cl (amG 15 (amF oC Cp .ret) (amF oB Cl (amG 20 (amF oA Co .ret) (amF oz Cl (amH 26 (.sreg oy Cq))))))))))) (amF lT [] .ret))),[(.tmp 6)]⟩
attribute [push_cast] oH oG oF oE oD oC oB oA oz oy lT
theorem JO:amK 63=amL jz:=amO
def xm:LSO:=[Aj 10]
def xl:LSO:=[Aa 18 1,Ai 19 36 18,Aa 17 19,Ap 20 17,Aq 21 17,Aa 11 20,Aa 12 21]
def xk:LSO:=[Aa 23 2,Ai 24 36 23,Aa 22 24,Ap 25 22,Aq 26 22,Aa 13 25,Aa 14 26]
def xj:LSO:=[Aa 27 0,Bx 28 27,Aa 29 28,.grp none 29 false
 [Ag 30 29 12,Bb 31 29 30 0]
 32 (tm 31),Aa 33 32,.grp none 33 false
 [Ag 34 33 14,Bb 35 33 34 0]
 36 (tm 35),Aa 37 36,.grp none 37 false
 [Ag 38 37 4,Bb 39 37 38 1,Ag 40 37 39,.grp (some (37,false)) 40 true
 [Ae 41 40 4,Bv 42 40 41 2]
 43 (tm 42),Ag 44 37 43,.grp (some (37,false)) 44 true
 [Ae 45 44 4,Bv 46 44 45 4]
 47 (tm 46),Ag 48 37 47,.grp (some (37,false)) 48 true
 [Ae 49 48 4,Bv 50 48 49 8]
 51 (tm 50)]
 52 (tm 51)]
def xh:LSO:=[Aj 10]
def xg:LSO:=[Aa 53 1,Af 54 53,A9 55 54 0,Aa 56 55,.grp none 56 true
 [Ae 57 56 1,Ae 58 56 0,Bn 59 56 58,Ay 60 56 0 59,Az 61 56 1 60,AE 62 56 61 57 61]
 63 (tm 62)]
def xf:LSO:=[A6 10]
def xe:LSO:=[Aa 64 0,As 65 64,Ac 66 1 65,Ab 67 1 66,Af 68 67,Ad 69 0]
def xd:LSO:=[Al 70 69 68]
def xc:LSO:=[Am 71 8 67 69,Ar 72 8 71,
 o1 16 (.alloc [(.int .i64 0),(.str []),(.str []),(.str []),(.int .i64 0),(.bool false),(.sl [] 0 (some 0)),(.sl [] 0 (some 0))]),An 8 16 72]
def sW:LSO:=[Ac 73 0 16,Ac 74 4 73,Ab 75 1 74,Aa 76 4,o1 77 (.bin .and (tm 75) (tm 76)),A8 78 77 0,Aa 79 78,.grp none 79 true
 [Ay 80 79 0 16,Ay 81 79 3 80,Az 82 79 1 81,og 83 79 true (.bin .eql (tm 82) (.av (.str []))),Ae 84 79 83,.grp (some (79,true)) 84 false
 [AA 85 84 0 16,AA 86 84 3 85,AB 87 84 1 86,AH 88 84 46 87,Ag 89 84 3,AH 90 84 46 89,Bp 91 84 88 90]
 92 (tm 91)]
 93 (tm 92),Aa 94 93,.grp none 94 true
 [Ae 95 94 2,Ay 96 94 7 16,Az 97 94 1 96,AE 98 94 62 95 97]
 99 (tm 98),Aa 100 99,.grp none 100 true
 [og 101 100 true (.load true 8 (tm 16)),Ae 102 100 1,Ae 103 100 2,og 104 100 true (.call 63 [(tm 101),(tm 102),(tm 103)])]
 105 (tm 104)]
def sV:LSO:=[Ac 106 0 16,Ac 107 5 106,Ab 108 1 107,Aa 10 108]
def sU:LSO:=[Ah 109 69 1,Aa 69 109]
def sT:LSO:=[Aj 10]
def eo:aQ:=⟨110,(amF xm [] (amF xl Cr (amF xk Cr (.seq (amF xj Ct (amH 52 (.sreg xh []))) (.seq (amF xg Co (amH 63 (.sreg xf []))) (.seq (amF xe CA (amI 0 (amF xd [] (.seq (amJ 70 0) (.seq (.block 1 (amF xc Cm (amF sW C4 (amH 105 (.sreg sV Cp))))) (.sreg sU Cl)))))) (amF sT [] .ret))))))),[(.tmp 10)]⟩
attribute [push_cast] xm xl xk xj xh xg xf xe xd xc sW sV sU sT
theorem jA:amK 26=amL eo:=amO
def sS:LSO:=[Ak 10]
def sR:LSO:=[Ak 11]
def sQ:LSO:=[Aa 14 3,Af 15 14,Ad 16 0]
def sP:LSO:=[Al 17 16 15]
def sO:LSO:=[Am 18 2 14 16,Ar 19 2 18,Ba 13,An 2 13 19]
def sN:LSO:=[Aa 20 0,Aa 21 1,Aa 22 2,Ac 23 0 13,Ab 24 1 23,Aa 25 4,o1 26 (.call 26 [(tm 20),(tm 21),(tm 22),(tm 24),(tm 25)])]
def sM:List (aw×Kd):=
 [AC 27 11,A0 28 0 13,A3 29 1 28 0 1,A0 30 1 13,A3 31 1 30 0 0,od 32 (.app 0 1 16 [(.str [])] (.av (.sl [] 0 (some 0))) (tm 31)) .eff,BQ 33 29 32,BR 34 33 0 0]
def pX:List aw :=
 [⟨(some 35),(.app 1 2 40 [(.str []),(.sl [] 0 (some 0))] (tm 27) (tm 34)),none⟩,⟨(some 11),(.mv (tm 35)),none⟩]
def sL:LSO:=[Ah 36 16 1,Aa 16 36]
def sK:LSO:=[Aa 37 11,Aa 10 37]
def mt:aQ:=⟨38,(amF sS [] (amF sR [] (.seq (amF sQ [] (amI 0 (amF sP [] (.seq (amJ 17 0) (.seq (.block 1 (amF sO Cm (amF sN Cr (amG 26 (.dregM sM pX Cu) .skip)))) (.sreg sL Cl)))))) (amF sK Cl .ret)))),[(.tmp 10)]⟩
attribute [push_cast] sS sR sQ sP sO sN sM pX sL sK
theorem OG:aR Tryz.prog (λr i=>if r=6/\i=5 then 0 else 1) 28=some mt.raw:=amO
attribute [push_cast] xK OF jz eo mt
end Go.Proofs.YtdnfjhflkkpokaaGreatDoor.Av
set_option maxRecDepth 100000
namespace Go.Proofs.YtdnfjhflkkpokaaGreatDoor.Av
open Go
def yI:LSO:=[A5 2 0,B5 4,Aj 5]
def yH:LSO:=[Ar 6 2 2,o1 7 (.build [(.sl [] 0 (some 0)),(.sl [] 0 (some 0))] [(0,(2,(tm 6)))]),Aa 8 1,Au 9 95 7 8,Ap 10 9,Aq 11 9,An 4 4 10,Aa 5 11]
def tj:aQ:=⟨12,(amF yI [] (amF yH Cr .ret)),[(.cell true 4 4),(.tmp 5)]⟩
attribute [push_cast] yI yH
theorem RO:amK 45=amL tj:=amO
def k9:LSO:=[A5 2 0,A5 3 1,B5 4,Aj 5]
def k8:LSO:=[Ac 7 0 2,Ac 8 0 7,Ab 9 1 8,o1 10 (.mkfn 144 [(tm 3)]),Au 11 143 9 10,Aa 6 11]
def k7:LSO:=[Aa 12 6,AT 13 12 0]
def kZ:LSO:=[o1 14 (.build [(.str []),(.int .i64 0),(.bool false),(.bool false)] []),An 4 4 14,Aj 5]
def kY:LSO:=[Ac 15 0 2,Ac 16 0 15,Ab 17 1 16,Aa 18 6,Am 19 4 17 18,Ar 20 4 19,An 4 4 20,A6 5]
def iE:aQ:=⟨21,(amF k9 [] (amF k8 Cq (.seq (amF k7 Cl (amH 13 (.sreg kZ Cl))) (amF kY Cr .ret)))),[(.cell true 4 4),(.tmp 5)]⟩
attribute [push_cast] k9 k8 k7 kZ kY
theorem Ft:amK 95=amL iE:=amO
def ja:LSO:=[A5 2 0,Aj 3]
def i9:LSO:=[Ac 4 0 2,Ab 5 1 4,Ab 6 1 1,Au 7 145 5 6,Aa 3 7]
def gJ:aQ:=⟨8,(amF ja [] (amF i9 Co .ret)),[(.tmp 3)]⟩
attribute [push_cast] ja i9
theorem xH:amK 144=amL gJ:=amO
def yG:LSO:=[Aj 4]
def yF:LSO:=[Aa 5 0,Ai 6 46 5,Aa 7 1,Ai 8 46 7,AD 9 6 8,Aa 4 9]
def ti:aQ:=⟨10,(amF yG [] (amF yF Cq .ret)),[(.tmp 4)]⟩
attribute [push_cast] yG yF
theorem RN:amK 145=amL ti:=amO
def dt:LSO:=[Ad 4 0]
def dr:LSO:=[Aa 6 0,Af 7 6,Ad 8 0]
def dq:LSO:=[Al 9 8 7]
def dp:LSO:=[Aa 10 8,Aa 5 10]
def dm:LSO:=[Aa 11 1,Aa 12 0,Aa 13 5,Am 14 4 12 13,Ar 15 4 14,BK 16 11 15]
def dl:LSO:=[Aa 17 5,Aa 4 17]
def dj:LSO:=[Ah 18 8 1,Aa 8 18]
def di:LSO:=[Ad 4 (-1)]
def cC:aQ:=⟨19,(amF dt [] (.seq (amF dr Cs (amI 0 (amF dq [] (.seq (amJ 9 0) (.seq (.block 1 (amF dp Cl (amF dm Cq (amH 16 (.sreg dl Cl))))) (.sreg dj Cl)))))) (amF di [] .ret))),[(.tmp 4)]⟩
attribute [push_cast] dt dr dq dp dm dl dj di
theorem gG:amK 143=amL cC:=amO
attribute [push_cast] tj iE cC
set_option maxHeartbeats 8000000
set_option maxRecDepth 100000
def ajj(L:List Blk)(C:List AV)(n s:Nat)(v:AV):Prop:=(∃cap,v=.sl C n cap)\/∃i cp rest,v=.lsl i 0 n cp s/\L[i]?=some (.cells (C++rest))
abbrev a8(s:List UInt8):Prop:=(s.length:Int)<=140737488351232
abbrev tyC(ty:Typ):List AV:=[.str ty.1,.int .i64 ty.2.1,.bool ty.2.2.1,.bool ty.2.2.2]
variable {L:List Blk}{K:ajq}
def cq(ts:List Typ):List AV:=ts.flatMap tyC
theorem tK(ts:List Typ):(cq ts).length=ts.length*4:=by
 induction ts with
 |nil=>rfl
 |cons a l ih=>simp only[cq,aj5,ajA,tyC,ajz,aj9]at ih⊢;omega
abbrev me:Typ:=([],0,false,false)
theorem qC:∀{ts:List Typ}{k:Nat},k<ts.length->((cq ts).drop (k*4)).take 4=tyC (ts.getD k me)
 |a::l,0,_=>rfl
 |a::l,k+1,h=>by have ih:=@qC l k (by simpa using h);rw[show(k+1)*4=k*4+1+1+1+1 by omega];simpa[cq,tyC]using ih
theorem ahF{a b:List UInt8}(ha:a8 a)(hb:a8 b)(h:K (.bool (decide (ag a=ag b))) L):ajp 145 [.str a,.str b] L K:=by replace h:=hid h;refine aa RN (by simp[ti]) ?_;simp only[ti,am];have kk1:=@amT _ _ _ _ (xZ ha);have kk2:=@amT _ _ _ _ (xZ hb);refine wk ?_;exact ac h.o
theorem agj{ty:Typ}{n:List UInt8}{p:Nat}(ha:a8 ty.1)(hn:a8 n){L:List Blk}(hp:L[p]?=some (.cells [.str n])){K:ajq}(h:K (.bool (decide (ag ty.1=ag n))) L):
  ajp 144 [.agg (tyC ty),.ptr p 0] L K:=by
 replace h:=hid h;have hp2:∀X:List Blk,(L++X)[p]?=some (.cells [.str n]):=λX=>by rw[ajw (ajr.1 hp).1];exact hp
 refine aa xH (by simp[gJ]) ?_;simp only[gJ,am];have kk1:=@amT _ _ _ _ (ahF ha hn);refine wk ?_;exact ab rfl h.o
theorem ahK{f:FuncId}{caps:List AV}{ts:List Typ}{cap:Option Nat}{q:Typ->Bool}{L:List Blk}(hn:ts.length<=1100000)(hf:∀(ty:Typ) (K:AV->List Blk->Prop),ty∈ts->K (.bool (q ty)) L->ajp f (.agg (tyC ty)::caps) L K){K:ajq}(h1:(∀ty∈ts,q ty=false)->K (.int .i64 (-1)) L)(h2:∀k:Nat,k<ts.length->(∀j,j<k->q (ts.getD j me)=false)->q (ts.getD k me)=true->K (.int .i64 k) L):
  ajp 143 [.sl (cq ts) ts.length cap,.func f caps] L K:=by
 replace hf:=hid hf;replace h1:=hid h1;replace h2:=hid h2;refine ajo gG ?_;refine aq (λn T' L'=>∃k:Nat,n=ts.length-k/\k<=ts.length/\T'=[(8,.int .i64 (k:Int)),(7,.int .i64 ts.length),(0,.sl (cq ts) ts.length cap),(1,.func f caps)]/\L=L' /\
  ∀j,j<k->q (ts.getD j me)=false) (CutS (b:=ajs _)) ⟨0,rfl,aju _,rfl,rfl,amN⟩ ?_
 rintro _ _ L' ⟨k,rfl,hk,rfl,e,hr⟩;subst e;replace hr:=hid hr;by_cases hlt:k<ts.length;have g1:(k:Int)<(ts.length:Int):=amM;have g2:=ajn k amM;have e4:k*4+4<=(cq ts).length:=by rw[tK];omega
 have e3:=qC hlt;obtain⟨ty,hty⟩:=ajl (ts.getD k me);have hm:ty∈ts:=by rw[<- hty];simp[hlt]
 rw[hty]at e3;replace hty:=hid hty;rcases hqk:q ty with _|_;have kk1:Hid (∀{K:ajq},K (.bool false) L->ajp f (.agg (tyC ty)::caps) L K):=hid λa=>hf.o ty _ hm (by rw[hqk];exact a)
 replace hqk:=hid hqk;simp only[tyC]at kk1 e3;refine wk ?_;refine amR amM amP ⟨k+1,rfl,hlt,rfl,rfl,λj hj=>?_⟩;rcases ajT j k with h|h;exact hr.o j h;have:j=k:=amM;subst this;rw[hty.o];exact hqk.o;have kk1:Hid (∀{K:ajq},K (.bool true) L->ajp f (.agg (tyC ty)::caps) L K):=hid λa=>hf.o ty _ hm (by rw[hqk];exact a)
 replace hqk:=hid hqk;simp only[tyC]at kk1 e3;refine wk ?_;exact ac (h2.o k hlt hr.o (by rw[hty.o];exact hqk.o));have g1:¬(k:Int)<(ts.length:Int):=amM;refine wk ?_;refine ac (h1.o λty hty=>?_);obtain⟨j,hj,e⟩:=akk.1 hty;have:=hr.o j amM;simpa[hj,e]using this
def Fk(o:Option Typ):AV:=.tup [.agg (tyC (o.getD me)),.bool o.isSome]
theorem Ol{α:Type}{q:α->Bool}{d:α}:∀{l:List α}{k:Nat},k<l.length->(∀j,j<k->q (l.getD j d)=false)->q (l.getD k d)=true->l.find? q=some (l.getD k d)
 |a::t,0,_,_,h=>by simp only[alg]at h⊢;rw[aln,h]
 |a::t,k+1,hk,hp,h=>by have h0:=hp 0 amM;simp only[alg]at h0;rw[aln,h0];simp only[alQ]at h⊢;exact Ol (by simpa using hk) (λj hj=>by simpa using hp (j+1) amM) h
theorem ahG{ts:List Typ}{capT:Option Nat}{c2:List AV}{n2:Nat}{cap2:Option Nat}{n:List UInt8}(hl:ts.length<=1100000)(hts:∀t∈ts,a8 t.1)(hn:a8 n)(h:K (Fk (fS ts n)) L):
  ajp 95 [.agg [.sl (cq ts) ts.length capT,.sl c2 n2 cap2],.str n] L K:=by
 replace h:=hid h;refine ajo Ft ?_;refine ahK (q:=λt=>decide (ag t.1=ag n)) hl (λty K hm hk=>?_) (λhno=>?_) (λk hk hp hq=>?_);exact agj (hts ty hm) hn amN hk;have e:fS ts n=none:=akJ.2 λt ht=>by simpa using hno t ht
 rw[e]at h;simp only[Fk,aml,Option.isSome_none,tyC]at h;refine amU ?_;exact ab rfl h.o;have e:fS ts n=some (ts.getD k me):=Ol (d:=me) hk hp hq;have e4:k*4+4<=(cq ts).length:=by rw[tK];omega
 have e3:=qC hk;have g1:¬(k:Int)<0:=amM;have g2:(k:Int)<(ts.length:Int):=amM;obtain⟨ty,hty⟩:=ajl (ts.getD k me);rw[hty]at e e3;rw[e]at h;simp only[Fk,aks,Option.isSome_some,tyC]at h e3;clear hp hq hty e;refine amU ?_;exact ab rfl h.o
theorem aeK{ts:List Typ}{capT:Option Nat}{c2:List AV}{n2:Nat}{cap2:Option Nat}{n:List UInt8}(hl:ts.length<=1100000)(hts:∀t∈ts,a8 t.1)(hn:a8 n)(h:K (Fk (fS ts n)) L):
  ajp 45 [.agg [.sl (cq ts) ts.length capT,.sl c2 n2 cap2],.str n] L K:=by
 unfold Fk at h;refine ajo RO ?_;refine ahG hl hts hn ?_;unfold Fk;obtain⟨ty,hty⟩:=ajl ((fS ts n).getD me);obtain⟨b,hb⟩:=ajl ((fS ts n).isSome);rw[hty,hb]at h⊢;replace h:=hid h;refine amU ?_;exact ab rfl h.o
inductive Nd where
 |mk (tag:Int) (data:List UInt8) (kids:List Nd)
def Nd.tag:Nd->Int
 |.mk t _ _=>t
def Nd.data:Nd->List UInt8
 |.mk _ d _=>d
def Nd.kids:Nd->List Nd
 |.mk _ _ k=>k
abbrev ajd:Nd:=.mk 0 [] []
instance:Inhabited Nd:=⟨ajd⟩
def b8(n:Nat):UInt8:=UInt8.ofNat n
structure Upd where
 kind:Int
 dn:List Rdn
 tw:List Rdn
 attrs:List Atr
abbrev ad4:Upd:=⟨0,[],[],[]⟩
abbrev dnA(d:List Rdn):AV:=.sl (d.map ah) d.length none
abbrev oJ(u:Upd):List AV:=[.int .i64 u.kind,dnA u.dn,dnA u.tw,.sl (aB u.attrs) u.attrs.length none]
def dnB(d:List Rdn):Prop:=d.length<=1100000/\∀r∈d,r.length<=1100000
end Go.Proofs.YtdnfjhflkkpokaaGreatDoor.Av
namespace Go.Proofs
open Go.Shelf
def Tryz.growD_ren:Go.Shelf.Ren:=⟨λ|4=>157|n=>n,λ|22=>24|25=>99|3=>3|4=>4|9=>9|20=>20|0=>0|n=>n,λ|n=>n⟩
theorem Tryz.growD:Go.Proofs.Lays8.n4 Tryz.prog Tryz.growD_ren:={
 mixed:=by kernel_rfl
 f4:=⟨Tryz.f157.name,by decide,Tryz.func157.trans (congrArg some (by kernel_rfl))⟩
 t0:=Tryz.underlying0
 a0:=Tryz.isAgg0
 z0:=Tryz.sizeOf0
 v0:=Tryz.zeroValue0
 t3:=Tryz.underlying3
 a3:=Tryz.isAgg3
 z3:=Tryz.sizeOf3
 v3:=Tryz.zeroValue3
 t4:=Tryz.underlying4
 a4:=Tryz.isAgg4
 z4:=Tryz.sizeOf4
 v4:=Tryz.zeroValue4
 t9:=Tryz.underlying9
 a9:=Tryz.isAgg9
 z9:=Tryz.sizeOf9
 v9:=Tryz.zeroValue9
 t20:=Tryz.underlying20
 a20:=Tryz.isAgg20
 z20:=Tryz.sizeOf20
 v20:=Tryz.zeroValue20
 t22:=Tryz.underlying24
 a22:=Tryz.isAgg24
 z22:=Tryz.sizeOf24
 v22:=Tryz.zeroValue24}
end Go.Proofs
set_option maxRecDepth 100000
namespace Go.Proofs.YtdnfjhflkkpokaaGreatDoor.Av
open Go
def SH:LSO:=[Ak 4]
def SG:LSO:=[Ak 5]
def SF:LSO:=[Aa 8 1,Aa 9 0,o1 10 (.bslice false 1 2 [(.sl [] 0 (some 0)),(.sl [] 0 (some 0))] [(0,(1,(tm 8))),(1,(1,(tm 9)))]),Ai 11 102 10,Af 12 11,Ad 13 0]
def SD:LSO:=[Al 14 13 12]
def SC:LSO:=[Am 15 1 11 13,Ab 16 1 15,Aa 7 16]
def SA:LSO:=[Aa 17 5,Aa 18 7,o1 19 (.app 0 2 32 [(.str []),(.str [])] (.av (.sl [] 0 (some 0))) (tm 18)),Bf 20 19,Bd 21 17 20,Aa 5 21]
def Sz:LSO:=[Ah 22 13 1,Aa 13 22]
def Sy:LSO:=[Aa 23 5,Aa 4 23]
def xJ:aQ:=⟨24,(amF SH [] (amF SG [] (.seq (amF SF CA (amI 0 (amF SD [] (.seq (amJ 14 0) (.seq (.block 1 (amF SC Cm (.sreg SA Cq))) (.sreg Sz Cl)))))) (amF Sy Cl .ret)))),[(.tmp 4)]⟩
attribute [push_cast] SH SG SF SD SC SA Sz Sy
theorem Rj:aR Tryz.prog (λr i=>if r=5/\i=2 then 0 else 1) 59=some xJ.raw:=amO
def eT:LSO:=[Ak 2]
def eS:LSO:=[Ad 3 0]
def eR:LSO:=[Aa 9 0,Af 10 9,Ad 11 0]
def eQ:LSO:=[Al 12 11 10]
def eP:LSO:=[Am 13 1 9 11,Ab 14 1 13,Aa 5 14]
def eO:LSO:=[Aa 15 3,Aa 16 5,Af 17 16,Bo 18 15 17,Aa 3 18]
def eN:LSO:=[Aa 19 3,AT 20 19 0]
def eM:LSO:=[o1 21 (.mkif 9 (.av (.str [108,101,110,32,111,117,116,32,111,102,32,114,97,110,103,101]))),
 .op ⟨none,.bad,none⟩]
def eL:LSO:=[Ah 22 11 1,Aa 11 22]
def eK:LSO:=[Aa 23 3,o1 24 (.call 157 [(.av (.sl [] 0 (some 0))),(tm 23)]),Aa 6 24]
def eF:LSO:=[Aa 25 0,Af 26 25,Ad 27 0]
def eE:LSO:=[Al 28 27 26]
def eD:LSO:=[Am 29 1 25 27,Ab 30 1 29,Aa 8 30]
def eC:LSO:=[Aa 31 6,Aa 32 8,Bd 33 31 32,Aa 6 33]
def eB:LSO:=[Ah 34 27 1,Aa 27 34]
def eA:LSO:=[Aa 35 6,Aa 2 35]
def dd:aQ:=⟨36,(amF eT [] (amF eS [] (.seq (amF eR [] (amI 0 (amF eQ [] (.seq (amJ 12 0) (.seq (.block 1 (amF eP Cm (amF eO Co (amF eN Cl (amG 20 (.sreg eM [false]) .skip))))) (.sreg eL Cl)))))) (amF eK Cm (.seq (amF eF [] (amI 2 (amF eE [] (.seq (amJ 28 2) (.seq (.block 3 (amF eD Cm (.sreg eC Cp))) (.sreg eB Cl)))))) (amF eA Cl .ret)))))),[(.tmp 2)]⟩
attribute [push_cast] eT eS eR eQ eP eO eN eM eL eK eF eE eD eC eB eA
theorem iM:amK 102=amL dd:=amO
def Pi:LSO:=[AP 2,Ad 3 0]
def Ph:LSO:=[Aa 7 0,Ai 8 36 7,Aa 6 8,Ap 9 6,Aq 10 6,Aa 4 9,Aa 5 10]
def Pg:LSO:=[Aa 11 5,A8 12 11 0]
def Pf:LSO:=[Aa 13 5,AP 2,Aa 3 13]
def Pe:LSO:=[Aa 14 0,Af 15 14,Ao 16 15 0]
def Pd:LSO:=[AP 2,Ad 3 2]
def Pc:LSO:=[Aa 17 0,BJ 18 59 17,
 .op ⟨(some 19),.mkmap,none⟩,
 .op ⟨(some 20),.mkmap,none⟩,o1 21 (.build [(.sl [] 0 (some 0)),.nilmap,.nilmap,(.int .i64 0)] [(0,(1,(tm 18))),(1,(1,(tm 19))),(2,(1,(tm 20))),(3,(1,(iv 0)))]),A5 22 21,
 o1 23 (.build [.nilptr] [(0,(1,(tm 22)))]),A5 24 23,Aa 2 24,Ad 3 0]
def iC:aQ:=⟨25,(amF Pi [] (.seq (amF Ph Cr (amF Pg Cl (amH 12 (.sreg Pf Cs)))) (.seq (amF Pe Cm (amH 16 (.sreg Pd []))) (amF Pc CO .ret)))),[(.tmp 2),(.tmp 3)]⟩
attribute [push_cast] Pi Ph Pg Pf Pe Pd Pc
theorem th:amK 30=amL iC:=amO
def tX:LSO:=[A5 3 1,Ad 4 0]
def tW:LSO:=[Aa 17 0,Bx 18 17]
def tV:LSO:=[Ad 4 1]
def tU:LSO:=[Aa 19 0,As 20 19,Ac 21 0 20,Ab 22 1 21,Ar 23 4 3,Au 24 78 22 23,Aa 5 24]
def tT:LSO:=[Aa 25 5,A8 26 25 0]
def tS:LSO:=[Aa 27 5,Aa 4 27]
def tR:LSO:=[Aa 28 0,As 29 28,Ac 30 0 29,Ab 31 1 30,Ac 32 1 3,Ab 33 1 32,Au 34 24 31 33,Aa 6 34]
def tQ:LSO:=[Ac 35 0 3,Ab 36 1 35]
def tP:LSO:=[Ao 38 36 1,Aa 37 38]
def tO:LSO:=[Aa 39 0,As 40 39,Ac 41 0 40,Ab 42 1 41,As 43 42,Ac 44 3 43,Ab 45 1 44,Ah 46 45 1,As 47 42,Ac 48 3 47,An 1 48 46]
def rp:List (aw×Kd):=
 [AC 49 0,AN 50 49 0 1,A0 51 0 50,A3 52 1 51 0 1,AN 53 52 0 1,A0 54 1 53,A3 55 1 54 0 1,AC 56 0,AN 57 56 0 1,A0 58 0 57,A3 59 1 58 0 1,AN 60 59 0 1,A0 61 3 60,A3 62 1 61 0 1,
 A0 63 3 3,A3 64 1 63 0 0,AY 65 60 64 0 0,od 66 (.build [(.sl [] 0 (some 0)),(.sl [] 0 (some 0)),(.sl [] 0 (some 0)),(.int .i64 0)] [(2,(1,(tm 65)))]) .pure,
 od 67 (.box (tm 66)) .eff]
def pr:List aw :=
 [⟨none,(.mset .int (tm 55) (tm 62) (tm 67)),none⟩]
def rm:List (aw×Kd):=
 [AC 68 0,AC 69 0,AN 70 69 0 0,A0 71 0 70,A3 72 1 71 0 0,AN 73 72 0 0,A0 74 3 73,A3 75 1 74 0 0,A0 76 1 3,A3 77 1 76 0 0]
def pq:List aw :=
 [⟨(some 78),(.call 79 [(tm 68),(tm 75),(tm 77)]),none⟩]
def rl:LSO:=[Aa 79 0,Ac 80 1 3,Ab 81 1 80,B0 82 80 79 81 1]
def rk:LSO:=[Ao 84 36 2,Aa 83 84]
def rj:LSO:=[Ac 86 1 3,Ab 87 1 86,Ai 88 58 87,Aa 85 88,Ap 89 85,Aq 90 85,Aa 7 89,Aa 8 90]
def ri:LSO:=[Aa 91 0,As 92 91,Ac 93 0 92,Ab 94 1 93,As 95 94,Ac 96 2 95,Ab 97 1 96,Aa 98 7,o0 (.mdel .str (tm 97) (tm 98))]
def rh:LSO:=[Aa 99 0,As 100 99,Ac 101 0 100,Ab 102 1 101,As 103 102,Ac 104 1 103,Ab 105 1 104,Aa 106 6,o0 (.mdel .int (tm 105) (tm 106))]
def rf:LSO:=[Aa 107 0,Ac 108 1 3,Ab 109 1 108,B0 110 80 107 109 (-1)]
def re:LSO:=[Ao 112 36 3,Aa 111 112]
def rd:List (aw×Kd):=
 [AC 113 0,AN 114 113 0 0,A0 115 0 114,A3 116 1 115 0 0,AN 117 116 0 0,A0 118 1 117,A3 119 1 118 0 0,AC 120 6,od 121 (.mget .int false .nilptr (tm 119) (tm 120)) (.read 0 0),
 A0 122 3 3,A3 123 1 122 0 0,AY 124 60 123 0 0]
def pn:List aw :=
 [⟨(some 125),(.nilchk (tm 121)),none⟩,⟨(some 126),(.faddr 2 (tm 125)),none⟩,⟨none,(.store 1 (tm 126) (tm 124)),none⟩]
def rb:LSO:=[Ao 128 36 4,Aa 127 128]
def q9:LSO:=[Aa 129 0,As 130 129,Ac 131 0 130,Ab 132 1 131,Aa 133 6,B0 134 23 132 133 2,Aa 9 134]
def qZ:LSO:=[Aa 135 9,Af 136 135,Ad 137 0]
def qY:LSO:=[Al 138 137 136]
def qX:LSO:=[Am 139 1 135 137,Ab 140 1 139,Aa 11 140]
def qW:LSO:=[Aa 142 0,As 143 142,Ac 144 0 143,Ab 145 1 144,As 146 145,Ac 147 1 146,Ab 148 1 147,Aa 149 11,Bm 150 148 149,As 151 150,Ac 152 0 151,Ab 153 1 152,
 Ai 154 58 153,Aa 141 154,Ap 155 141,Aq 156 141,Aa 12 155,Aa 13 156]
def qV:LSO:=[Aa 157 0,As 158 157,Ac 159 0 158,Ab 160 1 159,As 161 160,Ac 162 2 161,Ab 163 1 162,Aa 164 12,o0 (.mdel .str (tm 163) (tm 164))]
def qU:LSO:=[Ah 165 137 1,Aa 137 165]
def qT:LSO:=[Aa 166 0,Ac 167 1 3,Ab 168 1 167,B0 169 80 166 168 (-1)]
def qS:LSO:=[Aa 170 9,Af 171 170,Ad 172 0]
def qR:LSO:=[Al 173 172 171]
def qQ:LSO:=[Am 174 1 170 172,Ab 175 1 174,Aa 15 175]
def qP:LSO:=[Aa 176 0,As 177 176,Ac 178 0 177,Ab 179 1 178,As 180 179,Ac 181 1 180,Ab 182 1 181,Aa 183 15,Bm 184 182 183,As 185 184,Ac 186 0 185,Ab 187 1 186,
 Aa 16 187]
def qO:List (aw×Kd):=
 [AC 188 0,AC 189 15,A0 190 2 3,A3 191 1 190 0 0,AC 192 16,AC 193 16,od 194 (.len false (tm 193)) (.read 0 0),A0 195 1 3,A3 196 1 195 0 0,
 od 197 (.len false (tm 196)) (.read 0 0),od 198 (.bin .sub (tm 194) (tm 197)) .pure,od 199 (.slV 1 (tm 192) none (some (tm 198)) none) (.read 0 0),
 od 200 (.call 59 [(tm 191),(tm 199)]) (.read 0 0)]
def pm:List aw :=
 [⟨(some 201),(.call 79 [(tm 188),(tm 189),(tm 200)]),none⟩]
def qN:LSO:=[Ah 202 172 1,Aa 172 202]
def qM:LSO:=[Aa 203 0,Ac 204 2 3,Ab 205 1 204,B0 206 80 203 205 1]
def qL:List (aw×Kd):=
 [AC 207 0,AN 208 207 0 0,A0 209 0 208,A3 210 1 209 0 0,AN 211 210 0 0,A0 212 1 211,A3 213 1 212 0 0,AC 214 6,od 215 (.mget .int false .nilptr (tm 213) (tm 214)) (.read 0 0),
 A0 216 3 3,A3 217 1 216 0 0,AY 218 60 217 0 0]
def pl:List aw :=
 [⟨(some 219),(.nilchk (tm 215)),none⟩,⟨(some 220),(.faddr 2 (tm 219)),none⟩,⟨none,(.store 1 (tm 220) (tm 218)),none⟩]
def qK:LSO:=[Ad 4 0]
def b9:aQ:=⟨221,(amF tX [] (.seq (amF tW Cl (amH 18 (.sreg tV []))) (.seq (.sdreg tU [.pure,(.read 0 0),.pure,(.read 0 0),(.read 0 0)] Cr) (.seq (amF tT Cl (amH 26 (.sreg tS Cl))) (.seq (.sdreg tR [.pure,(.read 0 0),.pure,(.read 0 0),.pure,(.read 0 0)] Ct) (.seq (amF tQ Cl (.block 0 (amF tP Cl (amG 37 (amF tO CH (.seq (.dregM rp pr [false,false,false,false,false,false,false,false,false,false,false,false,false,false,false,false,false,false,false]) (.seq (.dregM rm pq [false,false,false,false,false,false,false,false,false,false,false]) (.sreg rl Cy)))) (amF rk Cl (amG 83 (amF rj C7 (amF ri C2 (amF rh C2 (.sreg rf Cy)))) (amF re Cl (amG 111 (.dregM rd pn CJ) (amF rb Cl (amG 127 (amF q9 Cr (.seq (amF qZ [] (amI 1 (amF qY [] (.seq (amJ 138 1) (.seq (.block 2 (amF qX Cm (amF qW [false,true,false,false,false,false,false,false,false,false,false,false,false,false,false,false,false,false] (.sreg qV C2)))) (.sreg qU Cl)))))) (amF qT Cy (.seq (amF qS [] (amI 3 (amF qR [] (.seq (amJ 173 3) (.seq (.block 4 (amF qQ Cm (amF qP CQ (.dregM qO pm CJ)))) (.sreg qN Cl)))))) (amF qM Cy (.dregM qL pl CJ)))))) .skip)))))))))) (amF qK [] .ret))))))),[(.tmp 4)]⟩
attribute [push_cast] tX tW tV tU tT tS tR tQ tP tO rp pr rm pq rl rk rj ri rh rf re rd pn rb q9 qZ qY qX qW qV qU qT qS qR qQ qP qO pm qN qM qL pl qK
theorem eY:amK 34=amL b9:=amO
def pj:LSO:=[A5 3 1,Ad 4 0]
def pi:LSO:=[Aa 8 0,Bx 9 8]
def ph:LSO:=[Ad 4 1]
def pg:LSO:=[Aa 10 0,Ac 11 1 3,Ab 12 1 11,Au 13 24 10 12,Aa 5 13]
def pf:LSO:=[Ac 14 0 3,Ab 15 1 14]
def pc:LSO:=[Ao 17 15 1,Aa 16 17]
def o9:LSO:=[Ac 19 1 3,Ab 20 1 19,Ai 21 36 20,Aa 18 21,Ap 22 18,Aq 23 18,Aa 6 22,Aa 7 23]
def o8:LSO:=[Aa 25 7,A8 26 25 0,Aa 24 26]
def o7:LSO:=[Ad 4 34]
def o6:LSO:=[Aa 28 5,A9 29 28 0,Aa 27 29]
def nE:LSO:=[Ad 4 68]
def nD:LSO:=[Aa 31 0,Ac 32 1 3,Ab 33 1 32,Aa 34 0,As 35 34,Ac 36 0 35,Ab 37 1 36,AS 38 123 31 33 37,A7 39 38,Aa 40 39,.grp none 40 true
 [Ay 41 40 1 3,Az 42 40 1 41,AI 43 40 42,AX 44 40 43 0,Ae 45 40 44,.grp (some (40,true)) 45 false
 [Ag 46 45 0,AA 47 45 1 3,AB 48 45 1 47,og 49 45 false (.slV 1 (tm 48) (some (iv 1)) none none),og 50 45 false (.call 24 [(tm 46),(tm 49)]),AO 51 45 50 0]
 52 (tm 51)]
 53 (tm 52),Aa 30 53]
def nC:LSO:=[Ad 4 32]
def nB:LSO:=[Aa 55 0,As 56 55,Ac 57 1 56,Ab 58 1 57,o1 59 (.mlen (tm 58)),AJ 60 59 4096,Aa 54 60]
def nA:LSO:=[Ad 4 80]
def nz:LSO:=[Ad 4 0]
def ny:LSO:=[Ao 62 15 2,Aa 61 62]
def nw:LSO:=[Ao 63 15 3,Aa 61 63]
def nv:LSO:=[Ao 64 15 4,Aa 61 64]
def nu:LSO:=[Aa 65 5,Ao 66 65 0]
def nr:LSO:=[Ad 4 32]
def nq:LSO:=[Ac 67 0 3,Ab 68 1 67]
def np:LSO:=[Ao 70 68 2,Aa 69 70]
def nn:LSO:=[Aa 71 0,As 72 71,Ac 73 1 72,Ab 74 1 73,Aa 75 5,Bm 76 74 75,As 77 76,Ac 78 3 77,Ab 79 1 78,A9 80 79 0]
def nl:LSO:=[Ad 4 66]
def nj:LSO:=[Ad 4 0]
def ni:LSO:=[Ao 82 68 3,Aa 81 82]
def nh:LSO:=[Ad 4 0]
def ng:LSO:=[Ao 84 68 4,Aa 83 84]
def nf:LSO:=[Aa 85 0,Aa 86 5,Ar 87 4 3,AS 88 124 85 86 87,Aa 4 88]
def m9:LSO:=[Ad 4 1]
def ax:aQ:=⟨89,(amF pj [] (.seq (amF pi Cl (amH 9 (.sreg ph []))) (amF pg Co (.seq (amF pf Cl (.block 0 (amF pc Cl (amG 16 (amF o9 Ct (.seq (.block 1 (amF o8 Cm (amG 24 (amF o7 [] .ret) (amF o6 Cm (amG 27 (amF nE [] .ret) (.seq (.sdreg nD [.pure,.pure,(.read 0 0),.pure,(.read 0 0),.pure,(.read 0 0),(.read 0 0),.pure,.pure,.pure,(.read 0 0),(.read 0 0),.pure,.pure,.pure,.pure,(.read 0 0),(.read 0 0)] C4) (amG 30 (amF nC [] .ret) (amF nB Cr (amH 54 (.sreg nA [])))))))))) (amF nz [] .ret))) (.seq (amF ny Cl (amG 61 .skip (amF nw Cl (amG 61 .skip (.sreg nv Cl))))) (amG 61 (amF nu Cl (amH 66 (.sreg nr []))) .skip)))))) (.seq (amF nq Cl (.block 2 (amF np Cl (amG 69 (.seq (amF nn Cu (amH 80 (.sreg nl []))) (amF nj [] .ret)) (amF ni Cl (amG 81 (amF nh [] .ret) (amF ng Cl (amH 83 (.sreg nf Co))))))))) (amF m9 [] .ret)))))),[(.tmp 4)]⟩
attribute [push_cast] pj pi ph pg pf pc o9 o8 o7 o6 nE nD nC nB nA nz ny nw nv nu nr nq np nn nl nj ni nh ng nf m9
theorem aO:amK 78=amL ax:=amO
def o5:LSO:=[Ad 4 0]
def o4:LSO:=[Aa 7 0,Bx 8 7]
def o3:LSO:=[Ad 4 0]
def oZ:LSO:=[Aa 10 1,Ai 11 58 10,Aa 9 11,Ap 12 9,Aq 13 9,Aa 5 12,Aa 6 13]
def oY:LSO:=[Aa 14 6,A8 15 14 0]
def oX:LSO:=[Ad 4 0]
def oW:LSO:=[Aa 16 0,As 17 16,Ac 18 2 17,Ab 19 1 18,Aa 20 5,o1 21 (.mget .str false (.int .i64 0) (tm 19) (tm 20)),Aa 4 21]
def bp:aQ:=⟨22,(amF o5 [] (.seq (amF o4 Cl (amH 8 (.sreg o3 []))) (amF oZ Cw (.seq (amF oY Cl (amH 15 (.sreg oX []))) (amF oW Cr .ret))))),[(.tmp 4)]⟩
attribute [push_cast] o5 o4 o3 oZ oY oX oW
theorem cV:amK 24=amL bp:=amO
def Fe:LSO:=[A5 1 0,Aj 2]
def Fd:LSO:=[Ac 9 1 1,Ab 10 1 9,Ac 11 2 1,Ab 12 1 11,o1 13 (.bslice false 1 2 [(.sl [] 0 (some 0)),(.sl [] 0 (some 0))] [(0,(1,(tm 10))),(1,(1,(tm 12)))]),Af 14 13,
 Ad 15 0]
def Fc:LSO:=[Al 16 15 14]
def Fb:LSO:=[Am 17 1 13 15,Ab 18 1 17,Aa 4 18]
def Fa:LSO:=[Aa 19 4,Af 20 19,A9 21 20 40]
def E9:LSO:=[Aj 2]
def E8:LSO:=[Aa 22 4,Af 23 22,Ad 24 0]
def E7:LSO:=[Al 25 24 23]
def E6:LSO:=[Am 26 1 22 24,Ab 27 1 26,Aa 6 27]
def E5:LSO:=[Aa 28 6,Af 29 28,Ad 30 0]
def xb:LSO:=[Al 31 30 29]
def xa:LSO:=[Am 32 2 28 30,Ar 33 2 32,Bj 8,An 2 8 33]
def w9:LSO:=[Aa 34 6,Af 35 34,A9 36 35 10,Aa 37 36,.grp none 37 false
 [AA 38 37 1 8,AB 39 37 1 38,B1 40 37 39,AF 41 37 40 5000]
 42 (tm 41)]
def w8:LSO:=[Aj 2]
def w7:LSO:=[Ah 43 30 1,Aa 30 43]
def w6:LSO:=[Ah 44 24 1,Aa 24 44]
def w5:LSO:=[Ah 45 15 1,Aa 15 45]
def wZ:LSO:=[Ac 46 3 1,Ab 47 1 46,Ai 48 13 47,Aa 2 48]
def tG:aQ:=⟨49,(amF Fe [] (.seq (amF Fd CR (amI 0 (amF Fc [] (.seq (amJ 16 0) (.seq (.block 1 (amF Fb Cm (.seq (amF Fa Cm (amH 21 (.sreg E9 []))) (amF E8 [] (amI 2 (amF E7 [] (.seq (amJ 25 2) (.seq (.block 3 (amF E6 Cm (amF E5 [] (amI 4 (amF xb [] (.seq (amJ 31 4) (.seq (.block 5 (amF xa Cm (amF w9 Co (amH 42 (.sreg w8 []))))) (.sreg w7 Cl)))))))) (.sreg w6 Cl))))))))) (.sreg w5 Cl)))))) (amF wZ Cp .ret))),[(.tmp 2)]⟩
attribute [push_cast] Fe Fd Fc Fb Fa E9 E8 E7 E6 E5 xb xa w9 w8 w7 w6 w5 wZ
theorem R0:amK 8=amL tG:=amO
attribute [push_cast] xJ dd iC b9 ax bp tG
open Go Go.Sort Go.Proofs
variable {L:List Blk}{K:ajq}
set_option maxHeartbeats 8000000
set_option maxRecDepth 100000
theorem ZE(z:Array Value):∀k,(Builtin.zeroCells z k).size=k*z.size:=by intro k;simp[Builtin.zeroCells]
theorem aen:∃i0,Tryz.prog.info? 99=some i0/\i0.zero=some (.slice none 0 0)/\i0.size=1/\i0.bytes=24:=by
 have h:(Tryz.prog.info? 99).map (λi=>(i.zero,i.size,i.bytes))=some (some (.slice none 0 0),1,24):=amO;cases hi:Tryz.prog.info? 99 with
 |none=>rw[hi]at h;cases h
 | some i0 =>
   rw[hi]at h;simp only[ajQ,ajt,ajH]at h;exact⟨i0,rfl,h⟩
theorem aeu{L:List Blk}{K:ajq}(h:K (.sl [] 0 (some 0)) L):ajp 157 [.sl [] 0 (some 0),.int .i64 0] L K :=
 kw Tryz.func157 rfl amO (λw0 S0 E w vs hR hv=>by simp only[VRL]at hv;obtain⟨v,_,rfl,hv,_,_,rfl,h2,rfl⟩:=hv;have hv':=hv;simp only[VR]at hv h2;obtain⟨p,c,rfl,_,h3,_⟩:=hv;have hc:c=0:=h3 0 rfl;subst hc;subst h2;exact(Any8.slices_Grow_room Tryz.growD p 0 0 0 w (ajs _) amM amM amM).mono λe w' ⟨he,hw⟩=>⟨_,he,hv',by subst hw;exact VZ.refl _⟩) h
theorem agq{n:Nat}(h0:0<n)(hn:n<=4000000)(h:K (.lsl L.length 0 0 none 1) (L++[.cells []])):ajp 157 [.sl [] 0 (some 0),.int .i64 (n:Int)] L K:=λw0 S0 E w vs hR hv=>by
 simp only[VRL,VR]at hv;obtain⟨_,_,rfl,⟨p,c,rfl,_,h3,_⟩,_,_,rfl,rfl,rfl⟩:=hv;have hc:c=0:=h3 0 rfl;subst hc;obtain⟨i0,i1,i2,i3,i4⟩:=aen;refine .inl ⟨iu Tryz.func157 rfl amO _ _,(Any8.slices_Grow_grow Tryz.growD i0 (.slice none 0 0) i1 i2 amM p 0 0 n [] w (ajs _) amM (by rw[i4];omega) amM amN (λ_=>rfl) (λa _ j v hj=>by simp at hj)).mono ?_⟩;rintro e w' ⟨rfl,rfl⟩;have r0:Rel w0 S0 E L w.drew:=hR.grown ⟨λ_ _=>rfl,ajs _,rfl,rfl,rfl⟩
 let cs:Array Value:=([]:List Value).toArray++Builtin.zeroCells (Value.slice none 0 0).cells (0+n-0)++Builtin.zeroCells (Value.slice none 0 0).cells (grownCap w (0+n) 0 99-(0+n))
 have hcs:cs.size=n+(grownCap w (0+n) 0 99-n):=by simp only[cs,Array.size_append,ZE];have:(Value.slice none 0 0).cells.size=1:=rfl;rw[this];simp
 have r1:=r0.push (.cells cs 99) (.cells []) ⟨w.heap.size,0,cs.size⟩ rfl rfl ⟨⟨w.heap.size,0,cs.size⟩,cs,99,(0,0),amN,(show(w.heap.push (Obj.cells cs 99))[w.heap.size]?=some (Obj.cells cs 99 (0,0))by simp),rfl,amN,(λj a ha=>by simp at ha),λo _ _=>amM⟩;refine⟨_,_,_,_,rfl,r1.1,h,?_,r1.2⟩;simp only[VR];exact⟨⟨w.heap.size,0,cs.size⟩,grownCap w (0+n) 0 99,0,amN,rfl,λ_=>rfl,aju _,(λk hk=>by cases hk),by simp only[hcs];omega⟩
abbrev V7(l:List AV):AV:=.sl l l.length none
theorem afY{ls:List (List AV)}{k:Nat}(h:k<ls.length):(ls.map V7).getD k .undef=V7 (ls.getD k []):=by simp[h]
theorem aaA{ls:List (List AV)}{k:Nat}(h:k<ls.length):(ls.take (k+1)).flatten=(ls.take k).flatten++ls.getD k []:=by rw[ajN h,List.flatten_append];simp[h]
theorem aeI(ls:List (List AV))(k:Nat):(ls.take k).flatten.length<=ls.flatten.length:=by
 have h:ls.flatten=(ls.take k).flatten++(ls.drop k).flatten:=by rw[<- List.flatten_append,ak1]
 rw[h];simp
theorem W6{ls:List (List AV)}{cap:Option Nat}(hn:ls.length<=1100000)(ht:ls.flatten.length<=1100000)(hone:∀l∈ls,l.all AV.one=true)(href:∀p,AV.refsL p ls.flatten=true){L:List Blk}{K:ajq}(h:K (.sl ls.flatten ls.flatten.length none) L):
  ajp 102 [.sl (ls.map V7) ls.length cap] L K:=by
 replace h:=hid h;have htk:=hid (λk=>@aaA ls k);have hle:=hid (aeI ls);have hat:=hid (λk=>@afY ls k);replace hone:=hid hone;replace href:=hid href;refine ajo iM ?_;refine aq (λn T' L'=>∃k:Nat,n=ls.length-k/\k<=ls.length/\T'=[(11,.int .i64 (k:Int)),(10,.int .i64 ls.length),(9,.sl (ls.map V7) ls.length cap),(3,.int .i64 ((ls.take k).flatten.length:Int)),(2,.sl [] 0 (some 0)),(0,.sl (ls.map V7) ls.length cap)]/\L=L') (CutS (b:=ajs _)) ⟨0,rfl,aju _,rfl,rfl⟩ ?_;rintro _ _ _ ⟨k,rfl,hk,rfl,rfl⟩;by_cases hlt:k<ls.length;have g1:(k:Int)<(ls.length:Int):=amM;have g2:=ajn k amM;have e1:=htk.o k hlt;have e2:=hat.o k hlt;have e3:=hle.o (k+1);obtain⟨l,hl⟩:=ajl (ls.getD k []);rw[hl]at e1 e2;have e4:(ls.take (k+1)).flatten.length=(ls.take k).flatten.length+l.length:=by rw[e1,ajA]
 rw[e4]at e3;obtain⟨m,hm⟩:=ajl ((ls.take k).flatten.length);rw[hm]at e3 e4⊢;replace e1:=hid e1;replace hm:=hid hm;replace hl:=hid hl;have g3:IntKind.i64.wrap ((m:Int)+(l.length:Int))=(m:Int)+(l.length:Int):=ae amM amM;have g4:¬((m:Int)+(l.length:Int)<0):=amM;refine wk ?_;exact amR amM (CutL (b:=ajs _)) ⟨k+1,rfl,hlt,rfl,rfl⟩;have hke:k=ls.length:=amM;subst hke;clear hlt hk;have g1:¬(ls.length:Int)<(ls.length:Int):=amM;obtain⟨m,hm⟩:=ajl (ls.flatten.length);rw[ajL,hm];rw[hm]at h ht;rcases akM m with h0|hpos;subst h0;have hnil:=hid (aj4.1 hm);have kk1:=@hid _ @aeu;refine wk ?_;refine bK (l:=[]) (n:=0) 6 1 rfl (ajX 1).symm ?_;refine aq (λn T' L'=>∃k:Nat,n=ls.length-k/\k<=ls.length/\T'=[(27,.int .i64 (k:Int)),(26,.int .i64 ls.length),(25,.sl (ls.map V7) ls.length cap),(6,.gsl [] 0 L.length 1)]/\L'=L++[.spare 0 1]) amQ ⟨0,rfl,aju _,rfl,rfl⟩ ?_;rintro _ _ _ ⟨k,rfl,hk,rfl,rfl⟩;by_cases hlt:k<ls.length;have g1:(k:Int)<(ls.length:Int):=amM;have g2:=ajn k amM;have e2:=hat.o k hlt;have e3:ls.getD k []=[]:=List.flatten_eq_nil_iff.1 hnil.o _ (by rw[ajO,ajF hlt];exact aky _);rw[e3]at e2;replace e2:(ls.map V7).getD k .undef=.sl [] 0 none:=e2;clear e3;refine wk ?_;exact amR amM amP ⟨k+1,rfl,hlt,rfl,rfl⟩;have hke:k=ls.length:=amM;subst hke;have g1:¬(ls.length:Int)<(ls.length:Int):=amM;refine wk ?_;refine aJ (ab (by rfl) ?_);have:=h.o;rw[hnil.o]at this;exact this;have kk1:=@hid _ (λL K=>agq hpos amM (K:=K) (L:=L));refine wk ?_;refine aq (λn T' L'=>∃(k i:Nat) (X:List Blk) (c:List AV),n=ls.length-k/\k<=ls.length/\Hid (c=(ls.take k).flatten)/\c.length<=m/\i=L.length+X.length/\T'=[(27,.int .i64 (k:Int)),(26,.int .i64 ls.length),(25,.sl (ls.map V7) ls.length cap),(6,.lsl i 0 c.length none 1)]/\L'=L++(X++[.cells c])) amQ ⟨0,L.length,[],[],rfl,aju _,hid rfl,aju _,rfl,rfl,rfl⟩ ?_;rintro _ _ _ ⟨k,i,X,c,rfl,hk,hc,hcm,hi,rfl,rfl⟩;have hget:(L++(X++[Blk.cells c]))[i]?=some (.cells c):=by subst hi;simp
 replace hi:=hid hi;by_cases hlt:k<ls.length;have g1:(k:Int)<(ls.length:Int):=amM;have g2:=ajn k amM;have e1:=htk.o k hlt;have e2:=hat.o k hlt;have e3:=hle.o (k+1);obtain⟨l,hl⟩:=ajl (ls.getD k []);have hones:l.all AV.one=true:=hone.o l (by rw[<- hl];simp[hlt]);rw[hl]at e1 e2;rw[<- hc.o]at e1;have e4:c.length+l.length<=m:=by rw[e1,ajA,hm]at e3;exact e3
 have e5:(c.length+l.length)*24<=140737488355328:=amM;have e6:c.length+l.length<=140737488355328:=amM;replace e1:=hid e1;replace hl:=hid hl;clear e3;have hdead:(L++(X++[Blk.cells c])).set i .dead=L++(X++[.dead]):=by rw[hi.o];simp
 have hlen:(L++(X++[Blk.dead])).length=i+1:=by rw[hi.o];simp;omega
 refine wk ?_;refine amR ?_ amP ⟨k+1,i+1,X++[.dead],c++l,rfl,hlt,hid e1.o.symm,by simpa using e4,by rw[hi.o];simp;omega,rfl,?_⟩;omega;simp[aj3];have hke:k=ls.length:=amM;subst hke;have g1:¬(ls.length:Int)<(ls.length:Int):=amM;refine wk ?_;refine JS (i:=i) (l:=c) hget ?_;rw[show(L++(X++[Blk.cells c])).set i .dead=L++(X++[.dead])by rw[hi.o];simp];have e:=hc.o;rw[ajL]at e;have hs:(AV.lsl i 0 c.length none 1).snap i c=.sl c c.length none:=by simp[AV.snap,aj3]
 rw[hs,e,hm];exact ab (by simp only[AV.refs,href.o]) h.o
theorem XE{d:List Rdn}{cap cap':Option Nat}(hn:d.length<=1100000)(hr:∀r∈d,r.length<=1100000)(h:K (.sl (d.map ah) d.length none) L):
  ajp 59 [.sl (d.map ah) d.length cap,.sl [] 0 cap'] L K:=by
 replace h:=hid h;have hat:=hid (λk=>@kc d k);replace hr:=hid hr;have kk1:Hid (Ctr Tryz.prog 102 [.sl [.sl [] 0 cap',.sl (d.map ah) d.length cap] 2 (some 2)] (.sl (d.map ah) d.length none)):=@hid _ (by
  intro L K q;refine gZ ?_;simp only[AV.frzL,AV.frz,aY];have:=@W6 [[],d.map ah] none amN (by simpa using hn) (λl hl=>by simp at hl;rcases hl with rfl|rfl;rfl;rw[ajE];intro a ha;obtain⟨r,_,rfl⟩:=ajy.1 ha;rfl) (λp=>by simpa using dX p d) L K
  simp only[amt,amu,aj6,aj0,ajP,akA,ajR,aj9,ajz,V7]at this;exact this q)
 refine ajo Rj ?_;refine bK (l:=[]) (n:=0) 5 1 rfl (ajX 1).symm ?_;refine aq (λm T' L'=>∃(k:Nat) (C:List AV) (X:List Blk),m=d.length-k/\k<=d.length/\Hid (C=(d.take k).map ah)/\T'=[(13,.int .i64 (k:Int)),(12,.int .i64 d.length),(11,.sl (d.map ah) d.length none),(5,.gsl C k L.length 1)]/\L'=L++(.spare k 1::X)) amQ ⟨0,[],[],rfl,aju _,hid rfl,rfl,amN⟩ ?_;rintro _ _ _ ⟨k,C,X,rfl,hk,hC,rfl,rfl⟩;by_cases hlt:k<d.length;have g1:(k:Int)<(d.length:Int):=amM;have g2:=ajn k amM;have e2:=hat.o k hlt;have e3:k<(d.map ah).length:=by simpa using hlt
 obtain⟨r,hri⟩:=ajl (d.getD k []);have hrl:=hr.o r (by rw[<- hri];simp[hlt]);have htk:(d.take (k+1)).map ah=C++[.sl (aL r) r.length none]:=by rw[hC.o,ajN hlt,ajV,show d[k]=r by rw[<- hri];simp[hlt]];rfl
 rw[hri]at e2;have e4:=fK r;have e5:=cJ r;replace htk:=hid htk;clear hri hC;refine wk ?_;exact amR amM amP ⟨k+1,_,_,rfl,hlt,hid htk.o.symm,rfl,rfl⟩;have hke:k=d.length:=amM;subst hke;have g1:¬(d.length:Int)<(d.length:Int):=amM;have hC2:=hC.o;rw[ajL]at hC2;subst hC2;clear hC;refine wk ?_;refine aJ ?_;simp only[AV.frz,aY];exact ab (by simp only[AV.refs,dX]) h.o
def smA(n:Nat)(a:Ava):Bool:=decide (n<=10)&&decide (a.2.length<=5000)
def smR(r:Rdn):Bool:=r.all (smA r.length)
def smD(d:List Rdn):Bool:=decide (d.length<=40)&&d.all smR
def smU(u:Upd):Bool:=smD u.dn&&(smD u.tw&&XR u.attrs)
def Tg(d:List Rdn):Prop:=(d.length:Int)<=9223372036854775807/\∀r∈d,(r.length:Int)<=9223372036854775807
theorem Un{u:Upd}(hd:Tg u.dn)(ht:Tg u.tw)(hl:(u.attrs.length:Int)<=9223372036854775807)(hz:∀a∈u.attrs,(a.2.length:Int)<=9223372036854775807)(h:K (.bool (smU u)) L):
  ajp 8 [.agg (oJ u)] L K:=by
 obtain⟨k,d,t,l⟩:=u;simp only[oJ,smU]at hd ht hl hz h⊢;obtain⟨fw,hfw⟩:=ajl (XR l);have kk1:Hid (Ctr Tryz.prog 13 [.sl (aB l) l.length none] (.bool fw)):=@hid _ (by intro L K q;exact ag7 hl hz (by rw[hfw];exact q));rw[hfw]at h;obtain⟨ns,hns⟩:∃ns,ns=[d,t]:=⟨_,rfl⟩;obtain⟨R,hR⟩:=ajl ((ns.all smD&&fw));have hR0:(smD d&&(smD t&&fw))=R:=by rw[<- hR,hns];simp[amh]
 rw[hR0]at h;replace h:=hid h;have hnl:ns.length=2:=by rw[hns];rfl
 have hnb:∀x∈ns,Tg x:=λx hx=>by rw[hns]at hx;simp at hx;rcases hx with rfl|rfl<;>assumption
 have hrow:AV.sl [dnA d,dnA t] 2 (some 2)=.sl (ns.map dnA) 2 (some 2):=by rw[hns];rfl
 replace hnb:=hid hnb;obtain⟨U,hU⟩:∃U,U=[AV.int .i64 k,dnA d,dnA t,.sl (aB l) l.length none]:=⟨_,rfl⟩;have hU3:U.getD 3 .undef=.sl (aB l) l.length none:=by rw[hU];rfl
 have hUl:U.length=4:=by rw[hU];rfl
 clear hfw hz hR0 hd ht;replace hrow:=hid hrow;replace hU:=hid hU;replace hns:=hid hns;refine ajo R0 ?_;rw[hrow.o,<- hU.o];clear hrow;refine aq (λm T' L'=>∃(i:Nat) (X:List Blk),m=2-i/\i<=2/\Hid (((ns.drop i).all smD&&fw)=R)/\T'=[(15,.int .i64 (i:Int)),(14,.int .i64 2),(13,.sl (ns.map dnA) 2 (some 2)),(1,.ptr L.length 0)]/\L'=L++(.cells U::X)) amQ ⟨0,[],rfl,amM,hid (by simpa using hR),rfl,amN⟩ ?_;rintro _ _ _ ⟨i,X,rfl,hi,hI,rfl,rfl⟩;by_cases hlt:i<2;have g1:(i:Int)<2:=amM;have g2:=ajn i amM;obtain⟨x,hx⟩:=ajl (ns.getD i []);have hil:i<ns.length:=amM;have hxb:=hnb.o x (by rw[<- hx];simp[hil]);have e2:(ns.map dnA).getD i .undef=dnA x:=by rw[<- hx];simp[hil]
 have e3:i<(ns.map dnA).length:=by simpa using hil
 have hdr:ns.drop i=x::ns.drop (i+1):=by rw[ajY hil,<- hx];simp[hil]
 have hI2:=hI.o;rw[hdr,akL]at hI2;obtain⟨S,hS⟩:=ajl (((ns.drop (i+1)).all smD&&fw));rw[amh,hS]at hI2;clear hI hdr hx hR;by_cases h40:(40:Int)<(x.length:Int);have h':=h.o;rw[<- hI2,smD,decide_eq_false amM]at h';replace h':=hid h';clear hI2 hS;refine wk ?_;exact ab rfl h'.o;have hI3:(x.all smR&&S)=R:=by rw[<- hI2,smD,decide_eq_true amM,aj7]
 have hxl:x.length<=40:=amM;have hxr:=hid hxb.2;clear hI2 hxb;have hat:=hid (λk=>@kc x k);refine wk ?_;refine aq (λm T' L'=>∃(j:Nat) (Y:List Blk),m=x.length-j/\j<=x.length/\X.length<=Y.length/\Hid (((x.drop j).all smR&&S)=R)/\T'=[(24,.int .i64 (j:Int)),(23,.int .i64 x.length),(22,dnA x),(15,.int .i64 (i:Int)),(14,.int .i64 2),(13,.sl (ns.map dnA) 2 (some 2)),(1,.ptr L.length 0)]/\L'=L++(.cells U::Y)) amQ ⟨0,_,rfl,amM,ajs _,hid (by simpa using hI3),rfl,rfl⟩ ?_;rintro _ _ _ ⟨j,Y,rfl,hj,hXY,hJ,rfl,rfl⟩;by_cases hjl:j<x.length;have j1:(j:Int)<(x.length:Int):=amM;have j2:=ajn j amM;have e4:=hat.o j hjl;have e5:j<(x.map ah).length:=by simpa using hjl
 obtain⟨r,hr⟩:=ajl (x.getD j []);have hrb:=hxr.o r (by rw[<- hr];simp[hjl]);have hdr:x.drop j=r::x.drop (j+1):=by rw[ajY hjl,<- hr];simp[hjl]
 rw[hr]at e4;have hJ2:=hJ.o;rw[hdr,akL]at hJ2;obtain⟨S2,hS2⟩:=ajl (((x.drop (j+1)).all smR&&S));rw[amh,hS2,smR]at hJ2;clear hJ hdr hr hI3;refine wk ?_;refine aq (λm T' L'=>∃(p:Nat) (Z:List Blk),m=r.length-p/\p<=r.length/\Y.length<=Z.length/\Hid (((r.drop p).all (smA r.length)&&S2)=R)/\T'=[(30,.int .i64 (p:Int)),(29,.int .i64 r.length),(28,ah r),(6,ah r),(24,.int .i64 (j:Int)),(23,.int .i64 x.length),(22,dnA x),(15,.int .i64 (i:Int)),(14,.int .i64 2),(13,.sl (ns.map dnA) 2 (some 2)),(1,.ptr L.length 0)]/\L'=L++(.cells U::Z)) amQ ⟨0,_,rfl,amM,ajs _,hid (by simpa using hJ2),rfl,rfl⟩ ?_;rintro _ _ _ ⟨p,Z,rfl,hp,hYZ,hP,rfl,rfl⟩;by_cases hpl:p<r.length;have p1:(p:Int)<(r.length:Int):=amM;have p2:=ajn p amM;have e6:=fL hpl;have e7:p*2+2<=(aL r).length:=by rw[cJ];omega
 obtain⟨⟨ty,va⟩,ha⟩:∃a,r.getD p ([],[])=a:=⟨_,rfl⟩;have hdr:r.drop p=(ty,va)::r.drop (p+1):=by rw[ajY hpl,<- ha];simp[hpl]
 rw[ha]at e6;simp only[mu]at e6;have hP2:=hP.o;rw[hdr,akL,amh]at hP2;obtain⟨S3,hS3⟩:=ajl (((r.drop (p+1)).all (smA r.length)&&S2));rw[hS3]at hP2;clear hP hdr ha hJ2 hS hS2;by_cases h10:(10:Int)<(r.length:Int);have h':=h.o;rw[<- hP2,smA,decide_eq_false amM]at h';replace h':=hid h';clear hP2 hS3;refine wk ?_;exact ab rfl h'.o;by_cases h50:(5000:Int)<(va.length:Int);have h':=h.o;rw[<- hP2,smA,decide_eq_true amM,decide_eq_false (by simp only;omega)]at h';replace h':=hid h';clear hP2 hS3;refine wk ?_;exact ab rfl h'.o;have hP3:S3=R:=by rw[<- hP2,smA,decide_eq_true amM,decide_eq_true (by simp only;omega)];rfl
 subst hP3;replace hS3:=hid hS3;clear hP2;refine wk ?_;exact amR amM (CutL (b:=by simp;omega)) ⟨p+1,_,rfl,hpl,by simp;omega,hS3,rfl,rfl⟩;have hpe:p=r.length:=amM;subst hpe;have p1:¬(r.length:Int)<(r.length:Int):=amM;have hP2:=hP.o;rw[ake,aly,aj7,<- hS2]at hP2;replace hP2:=hid hP2;clear hP hJ2 hS hS2;refine wk ?_;exact amR amM (CutL (b:=by simp;omega)) ⟨j+1,_,rfl,hjl,amM,hP2,rfl,rfl⟩;have hje:j=x.length:=amM;subst hje;have j1:¬(x.length:Int)<(x.length:Int):=amM;have hJ2:=hJ.o;rw[ake,aly,aj7,<- hS]at hJ2;replace hJ2:=hid hJ2;clear hJ hS hI3;refine wk ?_;exact amR amM amP ⟨i+1,_,rfl,hlt,hJ2,rfl,rfl⟩;have hie:i=2:=amM;subst hie;have hI2:=hI.o;rw[ala amM,aly,aj7]at hI2;subst hI2;clear hI hR;refine wk ?_;exact ab rfl h.o
end Go.Proofs.YtdnfjhflkkpokaaGreatDoor.Av
set_option maxRecDepth 100000
namespace Go.Proofs.YtdnfjhflkkpokaaGreatDoor.Av
open Go
def Lc:LSO:=[Ak 2]
def La:LSO:=[Ak 3]
def K9:LSO:=[Aa 6 0,Af 7 6,Ad 8 0]
def K8:LSO:=[Al 9 8 7]
def K7:LSO:=[Am 10 2 6 8,Ar 11 2 10,Ba 5,An 2 5 11]
def K6:List (aw×Kd):=
 [AC 12 3,A0 13 0 5,A3 14 1 13 0 0,A0 15 1 5,A3 16 1 15 0 0,AY 17 47 16 0 0,BQ 18 14 17,BR 19 18 0 0]
def FG:List aw :=
 [⟨(some 20),(.app 1 2 40 [(.str []),(.sl [] 0 (some 0))] (tm 12) (tm 19)),none⟩,⟨(some 3),(.mv (tm 20)),none⟩]
def K5:LSO:=[Ah 21 8 1,Aa 8 21]
def K4:LSO:=[Aa 22 3,Aa 2 22]
def Jz:aQ:=⟨23,(amF Lc [] (amF La [] (.seq (amF K9 [] (amI 0 (amF K8 [] (.seq (amJ 9 0) (.seq (.block 1 (amF K7 Cm (.dregM K6 FG Cu))) (.sreg K5 Cl)))))) (amF K4 Cl .ret)))),[(.tmp 2)]⟩
attribute [push_cast] Lc La K9 K8 K7 K6 FG K5 K4
theorem Vz:amK 60=amL Jz:=amO
def mZ:LSO:=[Ak 4,Ak 5]
def mY:LSO:=[Aa 7 0,Bx 8 7,Aa 9 8,.grp none 9 false
 [Ag 10 9 0,og 11 9 false (.nilchk (tm 10)),AA 12 9 1 11,AB 13 9 1 12,Ag 14 9 1,og 15 9 false (.mget .int false .nilptr (tm 13) (tm 14)),BI 16 9 15]
 17 (tm 16)]
def mX:LSO:=[Ak 4,Ak 5]
def mW:LSO:=[Aa 18 0,As 19 18,Ac 20 1 19,Ab 21 1 20,Aa 22 1,Bm 23 21 22,Aa 6 23]
def mV:LSO:=[Aa 24 6,As 25 24,Ac 26 0 25,Ab 27 1 26,BJ 28 59 27,Aa 29 6,As 30 29,Ac 31 2 30,Ab 32 1 31,Ai 33 60 32,Aa 4 28,Aa 5 33]
def eX:aQ:=⟨34,(amF mZ [] (.seq (amF mY Cp (amH 17 (.sreg mX []))) (amF mW Cr (.seq (.sdreg mV [.pure,(.read 0 0),.pure,(.read 0 0),(.read 0 0),.pure,(.read 0 0),.pure,(.read 0 0)] CC) .ret)))),[(.tmp 4),(.tmp 5)]⟩
attribute [push_cast] mZ mY mX mW mV
theorem l7:amK 25=amL eX:=amO
def Lj:LSO:=[Ak 2]
def Li:LSO:=[o1 3 (.alloc [(.sl [] 0 (some 0))])]
def Lh:LSO:=[Aa 8 0,Ai 9 179 8]
def Lg:LSO:=[Aa 5 11]
def Lf:LSO:=[Aa 13 5,Bf 14 13,Ai 15 58 14,Aa 12 15,Ap 16 12,Aq 17 12,Aa 6 16,Aa 7 17]
def Le:LSO:=[Ab 18 1 3,Aa 19 6,By 20 19,BS 21 18 20,An 1 3 21]
def Ld:LSO:=[Ab 22 1 3,Aa 2 22]
def JA:aQ:=⟨23,(amF Lj [] (amF Li [] (.seq (amF Lh Cl (.block 0 (.rangeF (tm 9) [10,11] (.sreg Lg []) (.block 1 (amF Lf C7 (.sreg Le Cy)))))) (amF Ld Cl .ret)))),[(.tmp 2)]⟩
attribute [push_cast] Lj Li Lh Lg Lf Le Ld
theorem VA:aR Tryz.prog (λr i=>if r=5/\i=3 then 2 else 1) 125=some JA.raw:=amO
def mU:LSO:=[A5 3 0,Ak 6]
def mT:LSO:=[Ab 12 1 3,Bx 13 12,Aa 14 13,.grp none 14 false
 [AB 15 14 1 3,og 16 14 false (.nilchk (tm 15)),AA 17 14 1 16,AB 18 14 1 17,Ag 19 14 1,og 20 14 false (.mget .int false .nilptr (tm 18) (tm 19)),BI 21 14 20]
 22 (tm 21),Aa 23 22,.grp none 23 false
 [Ag 24 23 2,Bz 25 23 24 0]
 26 (tm 25),Aa 27 26,.grp none 27 false
 [Ag 28 27 2,AF 29 27 28 2]
 30 (tm 29)]
def mS:LSO:=[Ak 6]
def mR:LSO:=[Ab 31 1 3,As 32 31,Ac 33 1 32,Ab 34 1 33,Aa 35 1,Bm 36 34 35,As 37 36,Ac 38 1 37,Ab 39 1 38,Aa 7 39]
def mO:LSO:=[Ak 8]
def mN:LSO:=[Ab 40 1 3,As 41 40,Ac 42 1 41,Ab 43 1 42,o1 44 (.mrange (tm 43))]
def mM:LSO:=[o1 45 (.mnext (tm 44)),Ap 46 45]
def mL:LSO:=[o1 47 (.mentry (tm 44)),Ap 48 47,Aq 49 47,Aa 9 48,Aa 10 49]
def mK:LSO:=[Aa 50 10,As 51 50,Ac 52 1 51,Ab 53 1 52,Af 54 53,Aa 55 7,Af 56 55,B8 57 54 56,Aa 11 57]
def mJ:LSO:=[Aa 58 11,AJ 59 58 0,Aa 60 59,.grp none 60 true
 [Ae 61 60 10,Bn 62 60 61,Ay 63 60 1 62,Az 64 60 1 63,Ae 65 60 7,AI 66 60 65,og 67 60 true (.slV 1 (tm 64) none (some (tm 66)) none),Ae 68 60 7,AE 69 60 54 67 68]
 70 (tm 69),Aa 71 70,.grp none 71 true
 [Ae 72 71 2,AX 73 71 72 2,Ae 74 71 73,.grp (some (71,true)) 74 false
 [Ag 75 74 11,Ag 76 74 2,Bp 77 74 75 76]
 78 (tm 77)]
 79 (tm 78)]
def kT:LSO:=[Aa 80 8,Aa 81 9,o1 82 (.bslice false 1 1 [(.int .i64 0)] [(0,(1,(tm 81)))]),o1 83 (.app 2 1 8 [(.int .i64 0)] (tm 80) (tm 82)),Aa 8 83]
def kS:LSO:=[Aa 84 8,o1 85 (.mkfn 56 [(tm 3)]),Au 86 55 84 85]
def kR:LSO:=[Aa 87 8,Aa 6 87]
def bZ:aQ:=⟨88,(amF mU [] (.seq (amF mT Ct (amH 30 (.sreg mS []))) (amF mR Cu (amF mO [] (.seq (amF mN Co (amI 0 (amF mM Cl (.seq (amJ 46 0) (.block 1 (amF mL Cv (amF mK Cz (amF mJ Cq (amG 79 (.sreg kT Co) .skip))))))))) (amF kS CG (amF kR Cl .ret))))))),[(.tmp 6)]⟩
attribute [push_cast] mU mT mS mR mO mN mM mL mK mJ kT kS kR
theorem eW:aR Tryz.prog (λr i=>if r=10/\i=3 then 2 else 1) 23=some bZ.raw:=amO
def oV:LSO:=[Aj 6]
def oU:LSO:=[Aa 7 1,Af 8 7,Aa 9 2,Af 10 9,AD 11 8 10,Aa 12 11,.grp none 12 true
 [Ae 13 12 1,Ae 14 12 2,AE 15 12 62 13 14]
 16 (tm 15),Aa 6 16]
def fI:aQ:=⟨17,(amF oV [] (amF oU Ct .ret)),[(.tmp 6)]⟩
attribute [push_cast] oV oU
theorem oI:amK 123=amL fI:=amO
def jN:LSO:=[A5 5 2,Ad 6 0]
def jM:LSO:=[Ac 16 2 5,Ab 17 1 16,Ai 18 36 17,Aa 15 18,Ap 19 15,Aq 20 15,Aa 7 19,Aa 8 20]
def jL:LSO:=[Aa 22 0,Ac 23 1 5,Ab 24 1 23,Aa 25 0,As 26 25,Ac 27 0 26,Ab 28 1 27,AS 29 123 22 24 28,Aa 21 29]
def jK:LSO:=[Ad 6 53]
def jJ:LSO:=[Aa 31 8,A8 32 31 0,Aa 33 32,.grp none 33 false
 [AA 34 33 2 5,AB 35 33 1 34,AM 36 33 35,AO 37 33 36 0]
 38 (tm 37),Aa 30 38]
def jI:LSO:=[Ad 6 34]
def jH:LSO:=[Ac 40 2 5,Ab 41 1 40,B9 42 41 1,Ac 43 1 5,Ab 44 1 43,Au 45 62 42 44,Aa 39 45]
def jG:LSO:=[Ad 6 53]
def jF:LSO:=[Aa 47 0,Ac 48 2 5,Ab 49 1 48,B9 50 49 1,Au 51 24 47 50,Ao 52 51 0,Aa 46 52]
def jE:LSO:=[Ad 6 32]
def i8:LSO:=[Aa 53 0,Ac 54 2 5,Ab 55 1 54,Au 56 24 53 55,Aa 9 56]
def i7:LSO:=[Aa 57 9,A9 58 57 0,Aa 59 58,.grp none 59 true
 [Ae 60 59 9,Ae 61 59 1,og 62 59 true (.bin .neq (tm 60) (tm 61))]
 63 (tm 62)]
def i6:LSO:=[Ad 6 68]
def i5:LSO:=[Aa 64 0,Aa 65 1,B0 66 23 64 65 2,Af 67 66,Ad 68 0]
def iZ:LSO:=[Al 69 68 67]
def iY:LSO:=[Am 70 1 66 68,Ab 71 1 70,Aa 11 71]
def iX:LSO:=[Aa 72 0,As 73 72,Ac 74 1 73,Ab 75 1 74,Aa 76 11,Bm 77 75 76,As 78 77,Ac 79 0 78,Ab 80 1 79,Aa 12 80]
def iW:LSO:=[Ac 82 2 5,Ab 83 1 82,Aa 84 12,Aa 85 12,Af 86 85,Ac 87 1 5,Ab 88 1 87,Af 89 88,B8 90 86 89,BT 91 84 90,Au 92 59 83 91,Ai 93 36 92,Aa 81 93,
 Ap 94 81,Aq 95 81,Aa 13 94,Aa 14 95]
def iV:LSO:=[Aa 96 14,A8 97 96 0]
def iU:LSO:=[Ad 6 34]
def iT:LSO:=[Ah 98 68 1,Aa 68 98]
def iS:LSO:=[Ad 6 0]
def aH:aQ:=⟨99,(amF jN [] (amF jM Ct (.seq (.block 0 (.seq (.sdreg jL [.pure,.pure,(.read 0 0),.pure,(.read 0 0),.pure,(.read 0 0)] Cz) (amG 21 (amF jK [] .ret) (amF jJ Co (amG 30 (amF jI [] .ret) (.seq (.sdreg jH [.pure,(.read 0 0),(.read 0 0),.pure,(.read 0 0)] Cr) (amG 39 (amF jG [] .ret) (amF jF Cr (amH 46 (.sreg jE [])))))))))) (.seq (amF i8 Co (amF i7 Cp (amH 63 (.sreg i6 [])))) (.seq (amF i5 [true,true,true,false,false] (amI 1 (amF iZ [] (.seq (amJ 69 1) (.seq (.block 2 (amF iY Cm (amF iX Cu (.seq (.sdreg iW [.pure,(.read 0 0),.pure,.pure,(.read 0 0),.pure,(.read 0 0),(.read 0 0),.pure,(.read 0 0),(.read 0 0),(.read 0 0),.pure,.pure,.pure,.pure] CL) (amF iV Cl (amH 97 (.sreg iU []))))))) (.sreg iT Cl)))))) (amF iS [] .ret)))))),[(.tmp 6)]⟩
attribute [push_cast] jN jM jL jK jJ jI jH jG jF jE i8 i7 i6 i5 iZ iY iX iW iV iU iT iS
theorem bR:amK 124=amL aH:=amO
def qJ:LSO:=[Aa 7 0,As 8 7,Ac 9 0 8,Ab 10 1 9,As 11 10,Ac 12 1 11,Ab 13 1 12,Aa 14 1,Bm 15 13 14,Aa 6 15]
def qI:LSO:=[Aa 16 6,Aa 17 6,Aa 18 2,BJ 19 59 18,Aa 20 2,Ai 21 125 20,As 22 16,Ac 23 0 22,An 1 23 19,As 24 17,Ac 25 1 24,An 1 25 21]
def qH:List (aw×Kd):=
 [AC 26 0,AN 27 26 0 1,A0 28 0 27,A3 29 1 28 0 1,AN 30 29 0 1,A0 31 2 30,A3 32 1 31 0 1,AC 33 6,AN 34 33 0 0,A0 35 1 34,A3 36 1 35 0 0,od 37 (.call 128 [(tm 36)]) .eff,
 AY 38 127 37 0 0,od 39 (.call 126 [(tm 38),(.av (.str [44]))]) (.read 0 0),AC 40 1]
def pk:List aw :=
 [⟨none,(.mset .str (tm 32) (tm 39) (tm 40)),none⟩]
def mo:aQ:=⟨41,(amF qJ Cu (amF qI CH (.dregM qH pk [false,false,false,false,false,false,false,false,false,false,false,false,false,false,false]))),[]⟩
attribute [push_cast] qJ qI qH pk
theorem Ov:aR Tryz.prog (λr i=>if r=2/\i=11 then 3 else 1) 79=some mo.raw:=amO
def qG:LSO:=[A5 1 0,o1 2 (.mv (.av .nilfunc))]
def qF:LSO:=[o1 3 (.mkfn 184 [(tm 1)]),Aa 2 3]
def mm:aQ:=⟨4,(amF qG [] (amF qF Cl .ret)),[(.tmp 2)]⟩
attribute [push_cast] qG qF
theorem Ou:amK 128=amL mm:=amO
def mI:LSO:=[A5 2 0]
def mH:LSO:=[Ab 5 1 1,Ai 6 185 5]
def mG:LSO:=[Aa 4 8]
def mF:LSO:=[Ab 9 1 2,Aa 10 4,BK 11 9 10,A7 12 11]
def ju:aQ:=⟨13,(amF mI [] (amF mH Cl (.block 0 (.rangeF (tm 6) [7,8] (.sreg mG []) (.block 1 (amF mF Cp (amG 12 .ret .skip))))))),[]⟩
attribute [push_cast] mI mH mG mF
theorem JB:amK 184=amL ju:=amO
def kX:LSO:=[Aa 7 0,As 8 7,Ac 9 0 8,Ab 10 1 9,Aa 11 1,B9 12 11 1,Au 13 24 10 12,Aa 6 13]
def kW:LSO:=[Aa 14 6,A9 15 14 0]
def kV:LSO:=[Aa 16 0,As 17 16,Ac 18 0 17,Ab 19 1 18,As 20 19,Ac 21 1 20,Ab 22 1 21,Aa 23 6,Bm 24 22 23,As 25 24,Ac 26 3 25,Ab 27 1 26,Aa 28 2,Bo 29 27 28,
 As 30 24,Ac 31 3 30,An 1 31 29]
def eh:aQ:=⟨32,(.seq (.sdreg kX [.pure,(.read 0 0),.pure,(.read 0 0),.pure,(.read 0 0)] Ct) (amF kW Cl (amG 15 (.sreg kV [false,false,false,false,false,false,false,false,false,false,false,false,false,false,false,false]) .skip))),[]⟩
attribute [push_cast] kX kW kV
theorem jZ:amK 80=amL eh:=amO
def Qf:LSO:=[Aj 4]
def Qe:LSO:=[Aa 10 0,Ai 11 36 10,Aa 9 11,Ap 12 9,Aq 13 9,Aa 5 12,Aa 6 13]
def Qd:LSO:=[Aa 15 1,Ai 16 58 15,Aa 14 16,Ap 17 14,Aq 18 14,Aa 7 17,Aa 8 18]
def Qc:LSO:=[Aa 19 6,A8 20 19 0,Aa 21 20,.grp none 21 false
 [Ag 22 21 8,Bb 23 21 22 0]
 24 (tm 23),Aa 25 24,.grp none 25 false
 [Ag 26 25 0,AM 27 25 26,Ag 28 25 1,AM 29 25 28,og 30 25 false (.bin .lss (tm 27) (tm 29))]
 31 (tm 30)]
def Qb:LSO:=[Aj 4]
def Qa:LSO:=[Aa 32 0,Aa 33 0,Af 34 33,Aa 35 1,Af 36 35,B8 37 34 36,BU 38 32 37,o1 39 (.call 85 [(tm 38),(.av (.bool true))]),Aa 40 7,AD 41 39 40,Aa 4 41]
def fW:aQ:=⟨42,(amF Qf [] (amF Qe Cr (amF Qd Cw (.seq (amF Qc Cq (amH 31 (.sreg Qb []))) (amF Qa CD .ret))))),[(.tmp 4)]⟩
attribute [push_cast] Qf Qe Qd Qc Qb Qa
theorem kH:amK 62=amL fW:=amO
def d6:LSO:=[A5 1 0,o1 2 (.mv (.av .nilfunc))]
def dZ:LSO:=[o1 3 (.mkfn 206 [(tm 1)]),Aa 2 3]
def cT:aQ:=⟨4,(amF d6 [] (amF dZ Cl .ret)),[(.tmp 2)]⟩
attribute [push_cast] d6 dZ
theorem io:amK 179=amL cT:=amO
def dL:LSO:=[Ab 4 1 1,Af 5 4,Bc 6 5 1,Aa 3 6]
def dK:LSO:=[Aa 7 3,AJ 8 7 0]
def dJ:LSO:=[Aa 11 0,Aa 12 3,Ab 13 1 1,Aa 14 3,Am 15 1 13 14,Ab 16 1 15,o1 17 (.callv (tm 11) [(tm 12),(tm 16)]),A7 18 17]
def dI:LSO:=[Aa 9 3,Bc 10 9 1,Aa 3 10]
def cO:aQ:=⟨19,(amF dL Cp (amI 0 (.seq (amF dK Cl (amJ 8 0)) (.seq (.block 1 (amF dJ Ct (amG 18 .ret .skip))) (.sreg dI Cm))))),[]⟩
attribute [push_cast] dL dK dJ dI
theorem gV:amK 206=amL cO:=amO
def eH:LSO:=[A5 1 0,o1 2 (.mv (.av .nilfunc))]
def eG:LSO:=[o1 3 (.mkfn 209 [(tm 1)]),Aa 2 3]
def cX:aQ:=⟨4,(amF eH [] (amF eG Cl .ret)),[(.tmp 2)]⟩
attribute [push_cast] eH eG
theorem iD:amK 185=amL cX:=amO
def dV:LSO:=[Ab 4 1 1,Af 5 4,Bc 6 5 1,Aa 3 6]
def dU:LSO:=[Aa 7 3,AJ 8 7 0]
def dT:LSO:=[Aa 11 0,Aa 12 3,Ab 13 1 1,Aa 14 3,Am 15 1 13 14,Ab 16 1 15,o1 17 (.callv (tm 11) [(tm 12),(tm 16)]),A7 18 17]
def dS:LSO:=[Aa 9 3,Bc 10 9 1,Aa 3 10]
def cR:aQ:=⟨19,(amF dV Cp (amI 0 (.seq (amF dU Cl (amJ 8 0)) (.seq (.block 1 (amF dT Ct (amG 18 .ret .skip))) (.sreg dS Cm))))),[]⟩
attribute [push_cast] dV dU dT dS
theorem ie:amK 209=amL cR:=amO
def ia:LSO:=[Ak 2]
def hG:LSO:=[Aa 3 0,o1 4 (.call 183 [(.av (.sl [] 0 (some 0))),(tm 3)]),Aa 2 4]
def fJ:aQ:=⟨5,(amF ia [] (amF hG Cm .ret)),[(.tmp 2)]⟩
attribute [push_cast] ia hG
theorem qg:amK 127=amL fJ:=amO
def ee:LSO:=[A5 2 0,Ak 4]
def ed:LSO:=[Aa 6 1]
def d9:LSO:=[Aa 5 7]
def d8:LSO:=[Ab 8 1 2,Aa 9 5,By 10 9,BS 11 8 10,An 1 2 11]
def d7:LSO:=[Ab 12 1 2,Aa 4 12]
def cU:aQ:=⟨13,(amF ee [] (.seq (amF ed [] (.block 0 (.rangeF (tm 6) [7] (.sreg d9 []) (.block 1 (.sreg d8 Cy))))) (amF d7 Cl .ret))),[(.tmp 4)]⟩
attribute [push_cast] ee ed d9 d8 d7
theorem iq:aR Tryz.prog (λr i=>if r=3/\i=3 then 2 else 1) 183=some cU.raw:=amO
def fF:LSO:=[Aj 4]
def fE:LSO:=[Aa 6 0,Af 7 6,Aa 8 1,Af 9 8,Bg 10 7 9]
def fD:LSO:=[Aj 4]
def fC:LSO:=[Aa 11 0,Af 12 11,Ad 13 0]
def fB:LSO:=[Al 14 13 12]
def fA:LSO:=[Aa 15 13,Aa 5 15]
def fz:LSO:=[Aa 16 0,Aa 17 5,Am 18 1 16 17,Ab 19 1 18,Aa 20 1,Aa 21 5,Am 22 1 20 21,Ab 23 1 22,Bg 24 19 23]
def fy:LSO:=[Aj 4]
def fu:LSO:=[Ah 25 13 1,Aa 13 25]
def ft:LSO:=[A6 4]
def bU:aQ:=⟨26,(amF fF [] (.seq (amF fE Co (amH 10 (.sreg fD []))) (.seq (amF fC Cs (amI 0 (amF fB [] (.seq (amJ 14 0) (.seq (.block 1 (amF fA Cl (.seq (.sdreg fz [.pure,.pure,(.read 0 0),(.read 0 0),.pure,.pure,(.read 0 0),(.read 0 0)] Cz) (amH 24 (.sreg fy []))))) (.sreg fu Cl)))))) (amF ft [] .ret)))),[(.tmp 4)]⟩
attribute [push_cast] fF fE fD fC fB fA fz fy fu ft
theorem fo:amK 54=amL bU:=amO
attribute [push_cast] Jz eX JA bZ fI aH mo mm ju eh fW cT cO cX cR fJ cU bU
end Go.Proofs.YtdnfjhflkkpokaaGreatDoor.Av
set_option maxRecDepth 100000
namespace Go.Proofs.YtdnfjhflkkpokaaGreatDoor.Av
open Go
variable {d suf:List Rdn}{cap cap' c:Option Nat}{k rt mn mi ck ci:Nat}{β:Type}{a:AV}{nb bn:Int->Nat}{last:Int}
def LL:LSO:=[AP 2,Ad 3 0]
def LK:LSO:=[Aa 7 0,Ai 8 37 7,Aa 6 8,Ap 9 6,Aq 10 6,Aa 4 9,Aa 5 10]
def LJ:LSO:=[Aa 11 5,A8 12 11 0]
def LI:LSO:=[Aa 13 5,AP 2,Aa 3 13]
def LH:LSO:=[Aa 14 0,Af 15 14,Ao 16 15 0]
def LG:LSO:=[AP 2,Ad 3 2]
def LF:LSO:=[Aa 17 0,Ai 18 40 17,o1 19 (.build [(.sl [] 0 (some 0)),(.sl [] 0 (some 0)),(.int .i64 0)] [(0,(1,(tm 18)))]),A5 20 19,Aa 2 20,Ad 3 0]
def gM:aQ:=⟨21,(amF LL [] (amF LK Cr (.seq (amF LJ Cl (amH 12 (.sreg LI Cs))) (.seq (amF LH Cm (amH 16 (.sreg LG []))) (amF LF C3 .ret))))),[(.tmp 2),(.tmp 3)]⟩
attribute [push_cast] LL LK LJ LI LH LG LF
theorem qj:amK 32=amL gM:=amO
def sn:LSO:=[Ad 4 0]
def sj:LSO:=[Aa 11 1,Ai 12 89 11,Aa 10 12,Ap 13 10,Aq 14 10,Aa 5 13,Aa 6 14]
def sh:LSO:=[Ad 7 0]
def sg:LSO:=[Aa 15 6,Ao 16 15 0,Aa 17 16,.grp none 17 true
 [Ae 18 17 7,Ae 19 17 0,Bn 20 17 19,Ay 21 17 1 20,Az 22 17 1 21,AI 23 17 22,og 24 17 true (.bin .lss (tm 18) (tm 23))]
 25 (tm 24)]
def sf:LSO:=[Aa 29 0,As 30 29,Ac 31 1 30,Ab 32 1 31,Aa 33 7,Am 34 3 32 33,Ac 35 1 34,Ab 36 1 35,Ai 37 89 36,Aa 28 37,Ap 38 28,Aq 39 28,Aa 8 38,Aa 9 39]
def se:LSO:=[Aa 40 5,Aa 41 8,AD 42 40 41]
def sb:LSO:=[Aa 43 7,Aa 4 43]
def sa:LSO:=[Aa 26 7,Ah 27 26 1,Aa 7 27]
def rZ:LSO:=[Ad 4 (-1)]
def gw:aQ:=⟨44,(amF sn [] (amF sj Cw (.seq (amF sh [] (amI 0 (.seq (amF sg Cp (amJ 25 0)) (.seq (.block 1 (amF sf [false,true,false,false,false,false,false,false,false,false,false,false,false,false] (amF se Cm (amH 42 (.sreg sb Cl))))) (.sreg sa Cm))))) (amF rZ [] .ret)))),[(.tmp 4)]⟩
attribute [push_cast] sn sj sh sg sf se sb sa rZ
theorem qi:amK 82=amL gw:=amO
def nX:LSO:=[Ad 4 0]
def nW:LSO:=[Aa 6 0,As 7 6,Ac 8 1 7,Ab 9 1 8,Af 10 9,Ad 11 0]
def nV:LSO:=[Al 12 11 10]
def nU:LSO:=[Aa 13 11,Aa 5 13]
def nT:LSO:=[Aa 14 0,As 15 14,Ac 16 1 15,Ab 17 1 16,Aa 18 5,Am 19 3 17 18,Ac 20 0 19,Ab 21 1 20,Aa 22 1,AD 23 21 22]
def nS:LSO:=[Aa 24 5,Aa 4 24]
def nR:LSO:=[Ah 25 11 1,Aa 11 25]
def nQ:LSO:=[Ad 4 (-1)]
def jx:aQ:=⟨26,(amF nX [] (.seq (amF nW C3 (amI 0 (amF nV [] (.seq (amJ 12 0) (.seq (.block 1 (amF nU Cl (amF nT Cu (amH 23 (.sreg nS Cl))))) (.sreg nR Cl)))))) (amF nQ [] .ret))),[(.tmp 4)]⟩
attribute [push_cast] nX nW nV nU nT nS nR nQ
theorem JD:amK 186=amL jx:=amO
def nO:LSO:=[Ad 4 0]
def nN:LSO:=[Aa 8 0,Aa 9 1,Au 10 186 8 9,Aa 5 10]
def nM:LSO:=[Ad 6 0]
def nL:LSO:=[Aa 11 0,As 12 11,Ac 13 1 12,Ab 14 1 13,Af 15 14,Ad 16 0]
def nK:LSO:=[Al 17 16 15]
def nJ:LSO:=[Aa 18 16,Aa 7 18]
def nI:LSO:=[Aa 19 5,AJ 20 19 0,Aa 21 20,.grp none 21 true
 [Ae 22 21 0,Bn 23 21 22,Ay 24 21 1 23,Az 25 21 1 24,Ae 26 21 7,Bh 27 21 3 25 26,Ay 28 21 1 27,Az 29 21 1 28,AI 30 21 29,Ae 31 21 0,Bn 32 21 31,Ay 33 21 1 32,Az 34 21 1 33,
 Ae 35 21 5,Bh 36 21 3 34 35,Ay 37 21 1 36,Az 38 21 1 37,AI 39 21 38,BV 40 21 39 1,BA 41 21 30 40]
 42 (tm 41),Aa 43 42,.grp none 43 true
 [Ae 44 43 0,Bn 45 43 44,Ay 46 43 1 45,Az 47 43 1 46,Ae 48 43 7,Bh 49 43 3 47 48,Ay 50 43 1 49,Az 51 43 1 50,Ae 52 43 0,Bn 53 43 52,Ay 54 43 1 53,Az 55 43 1 54,Ae 56 43 5,
 Bh 57 43 3 55 56,Ay 58 43 1 57,Az 59 43 1 58,AE 60 43 38 51 59]
 61 (tm 60)]
def nH:LSO:=[Aa 62 6,Ah 63 62 1,Aa 6 63]
def nG:LSO:=[Ah 64 16 1,Aa 16 64]
def nF:LSO:=[Aa 65 6,Aa 4 65]
def fc:aQ:=⟨66,(amF nO [] (amF nN Cp (amF nM [] (.seq (amF nL C3 (amI 0 (amF nK [] (.seq (amJ 17 0) (.seq (.block 1 (amF nJ Cl (.seq (.sdreg nI [.pure,.pure,.pure,.pure,(.read 0 0),.pure,(.read 0 0),.pure,(.read 0 0),.pure,(.read 0 0),(.read 0 0),.pure,(.read 0 0),.pure,(.read 0 0),.pure,(.read 0 0),.pure,(.read 0 0),(.read 0 0),.pure,.pure,.pure,.pure,.pure,(.read 0 0),.pure,(.read 0 0),.pure,(.read 0 0),.pure,(.read 0 0),.pure,(.read 0 0),.pure,(.read 0 0),.pure,(.read 0 0),.pure,(.read 0 0)] Cq) (amG 61 (.sreg nH Cm) .skip)))) (.sreg nG Cl)))))) (amF nF Cl .ret))))),[(.tmp 4)]⟩
attribute [push_cast] nO nN nM nL nK nJ nI nH nG nF
theorem l9:amK 130=amL fc:=amO
def F9:LSO:=[Aj 4]
def F8:LSO:=[Aa 5 0,Af 6 5,Aa 7 1,Af 8 7,AD 9 6 8,Aa 10 9,.grp none 10 true
 [Ae 11 10 0,Ae 12 10 1,AE 13 10 38 11 12]
 14 (tm 13),Aa 4 14]
def jw:aQ:=⟨15,(amF F9 [] (amF F8 Ct .ret)),[(.tmp 4)]⟩
attribute [push_cast] F9 F8
theorem Fp:amK 129=amL jw:=amO
def zd:LSO:=[Ak 6]
def zc:LSO:=[Ak 7]
def zb:LSO:=[Aa 8 7,Aa 9 0,Aa 10 0,Af 11 10,Aa 12 1,B8 13 11 12,BT 14 9 13,Bd 15 8 14,Aa 7 15]
def za:LSO:=[Aa 16 7,Aa 17 2,Bd 18 16 17,Aa 6 18]
def tt:aQ:=⟨19,(amF zd [] (amF zc [] (amF zb Cz (amF za Cp .ret)))),[(.tmp 6)]⟩
attribute [push_cast] zd zc zb za
theorem RQ:amK 83=amL tt:=amO
def oj:LSO:=[A5 3 1,Ad 4 0]
def oi:LSO:=[Ac 14 0 3,Ab 15 1 14,AT 16 15 1,Aa 17 16,.grp none 17 false
 [AA 18 17 0 3,AB 19 17 1 18,AF 20 17 19 4]
 21 (tm 20)]
def oh:LSO:=[Ad 4 1]
def oe:LSO:=[Aa 22 0,Ac 23 1 3,Ab 24 1 23,Au 25 82 22 24,Aa 5 25]
def oc:LSO:=[Ac 26 0 3,Ab 27 1 26,Ao 28 27 1]
def n9:LSO:=[Ac 30 1 3,Ab 31 1 30,Ai 32 37 31,Aa 29 32,Ap 33 29,Aq 34 29,Aa 6 33,Aa 7 34]
def n8:LSO:=[Aa 35 7,A8 36 35 0]
def n7:LSO:=[Ad 4 34]
def nZ:LSO:=[Aa 37 5,AJ 38 37 0]
def nY:LSO:=[Ad 4 68]
def lS:LSO:=[Ac 39 1 3,Ab 40 1 39,Aa 41 0,As 42 41,Ac 43 0 42,Ab 44 1 43,Au 45 129 40 44,A7 46 45,Aa 47 46,.grp none 47 true
 [Ay 48 47 1 3,Az 49 47 1 48,AI 50 47 49,AX 51 47 50 0,Ae 52 47 51,.grp (some (47,true)) 52 false
 [Ag 53 52 0,AA 54 52 1 3,AB 55 52 1 54,og 56 52 false (.slV 1 (tm 55) (some (iv 1)) none none),og 57 52 false (.call 82 [(tm 53),(tm 56)]),Bz 58 52 57 0]
 59 (tm 58)]
 60 (tm 59)]
def lR:LSO:=[Ad 4 32]
def lQ:LSO:=[Aa 61 0,As 62 61,Ac 63 1 62,Ab 64 1 63,Af 65 64,AJ 66 65 4096]
def lP:LSO:=[Ad 4 80]
def lO:LSO:=[Ad 4 0]
def lN:LSO:=[Aa 67 5,AT 68 67 0]
def lM:LSO:=[Ad 4 32]
def lL:LSO:=[Ac 69 0 3,Ab 70 1 69,Ao 71 70 2,Aa 72 71,.grp none 72 true
 [Ae 73 72 0,Ae 74 72 0,Bn 75 72 74,Ay 76 72 1 75,Az 77 72 1 76,Ae 78 72 5,Bh 79 72 3 77 78,Ay 80 72 0 79,Az 81 72 1 80,AE 82 72 130 73 81,BB 83 72 82 0]
 84 (tm 83)]
def lK:LSO:=[Ad 4 66]
def lJ:LSO:=[Ac 85 0 3,Ab 86 1 85,Ao 87 86 4]
def lI:LSO:=[Ac 89 2 3,Ab 90 1 89,Ai 91 37 90,Aa 88 91,Ap 92 88,Aq 93 88,Aa 8 92,Aa 9 93]
def lH:LSO:=[Ac 94 1 3,Ab 95 1 94,Aa 96 0,As 97 96,Ac 98 0 97,Ab 99 1 98,Au 100 129 95 99]
def lG:LSO:=[Ad 4 53]
def lF:LSO:=[Aa 101 9,A8 102 101 0,Aa 103 102,.grp none 103 false
 [AA 104 103 2 3,AB 105 103 1 104,AM 106 103 105,AO 107 103 106 0]
 108 (tm 107)]
def lE:LSO:=[Ad 4 34]
def lD:LSO:=[Ac 109 2 3,Ab 110 1 109,B9 111 110 1,Ac 112 1 3,Ab 113 1 112,Au 114 38 111 113]
def lC:LSO:=[Ad 4 53]
def lB:LSO:=[Aa 115 0,Ac 116 2 3,Ab 117 1 116,B9 118 117 1,Au 119 82 115 118,AT 120 119 0]
def lA:LSO:=[Ad 4 32]
def lz:LSO:=[Aa 121 0,Ac 122 2 3,Ab 123 1 122,Au 124 82 121 123,AJ 125 124 0,Aa 126 125,.grp none 126 true
 [Ae 127 126 0,Ay 128 126 2 3,Az 129 126 1 128,AE 130 126 82 127 129,Ae 131 126 5,og 132 126 true (.bin .neq (tm 130) (tm 131))]
 133 (tm 132)]
def lw:LSO:=[Ad 4 68]
def lv:LSO:=[Aa 134 0,As 135 134,Ac 136 1 135,Ab 137 1 136,Af 138 137,Ad 139 0]
def lu:LSO:=[Al 140 139 138]
def lr:LSO:=[Am 141 3 137 139,Ar 142 3 141,BW 11,An 3 11 142]
def lq:LSO:=[Ac 143 1 11,Ab 144 1 143,Ac 145 1 3,Ab 146 1 145,Au 147 38 144 146]
def lp:LSO:=[Ac 149 1 11,Ab 150 1 149,Ac 151 1 3,Ab 152 1 151,Af 153 152,Ac 154 2 3,Ab 155 1 154,AS 156 83 150 153 155,Ai 157 37 156,Aa 148 157,Ap 158 148,
 Aq 159 148,Aa 12 158,Aa 13 159]
def ln:LSO:=[Aa 160 13,A8 161 160 0]
def lm:LSO:=[Ad 4 34]
def ll:LSO:=[Ah 162 139 1,Aa 139 162]
def lh:LSO:=[Ad 4 0]
def aj:aQ:=⟨163,(amF oj [] (.seq (amF oi Co (amH 21 (.sreg oh []))) (amF oe Co (.seq (amF oc Cm (amG 28 (amF n9 Ct (.seq (amF n8 Cl (amH 36 (.sreg n7 []))) (.seq (amF nZ Cl (amH 38 (.sreg nY []))) (.seq (.seq (.sdreg lS [.pure,(.read 0 0),.pure,(.read 0 0),.pure,(.read 0 0),(.read 0 0),.pure,.pure,.pure,(.read 0 0),(.read 0 0),.pure,.pure,.pure,.pure,(.read 0 0),(.read 0 0)] Cu) (amH 60 (.sreg lR []))) (.seq (amF lQ Cq (amH 66 (.sreg lP []))) (amF lO [] .ret)))))) .skip)) (.seq (amF lN Cl (amH 68 (.sreg lM []))) (.seq (amF lL Co (amH 84 (.sreg lK []))) (.seq (amF lJ Cm (amG 87 (amF lI Ct (.seq (.seq (.sdreg lH [.pure,(.read 0 0),.pure,(.read 0 0),.pure,(.read 0 0)] Cr) (amH 100 (.sreg lG []))) (.seq (amF lF Cp (amH 108 (.sreg lE []))) (.seq (.seq (.sdreg lD [.pure,(.read 0 0),(.read 0 0),.pure,(.read 0 0)] Cq) (amH 114 (.sreg lC []))) (.seq (amF lB Cq (amH 120 (.sreg lA []))) (.seq (amF lz Cr (amH 133 (.sreg lw []))) (amF lv CA (amI 0 (amF lu [] (.seq (amJ 140 0) (.seq (.block 1 (amF lr Cm (amF lq Co (amG 147 (amF lp [true,false,false,false,false,false,false,false,false,false,false,false,false,false] (amF ln Cl (amH 161 (.sreg lm [])))) .skip)))) (.sreg ll Cl)))))))))))) .skip)) (amF lh [] .ret)))))))),[(.tmp 4)]⟩
attribute [push_cast] oj oi oh oe oc n9 n8 n7 nZ nY lS lR lQ lP lO lN lM lL lK lJ lI lH lG lF lE lD lC lB lA lz lw lv lu lr lq lp ln lm ll lh
theorem az:amK 81=amL aj:=amO
def rY:LSO:=[A5 3 1,Ad 4 0]
def rX:LSO:=[Aa 10 0,Ar 11 4 3,Au 12 81 10 11,Aa 5 12]
def rW:LSO:=[Aa 13 5,A8 14 13 0]
def rV:LSO:=[Aa 15 5,Aa 4 15]
def rU:LSO:=[Aa 16 0,Ac 17 1 3,Ab 18 1 17,Au 19 82 16 18,Aa 6 19]
def rT:LSO:=[Ak 7]
def rS:LSO:=[Aa 20 0,As 21 20,Ac 22 1 21,Ab 23 1 22,Af 24 23,Ad 25 0]
def rR:LSO:=[Al 26 25 24]
def rQ:LSO:=[Aa 27 25,Am 28 3 23 25,Ar 29 3 28,BW 9,Aa 8 27,An 3 9 29]
def rP:LSO:=[Ac 30 0 3,Ab 31 1 30,Ao 32 31 4,Aa 33 32,.grp none 33 true
 [Ay 34 33 1 9,Az 35 33 1 34,Ay 36 33 1 3,Az 37 33 1 36,AE 38 33 38 35 37]
 39 (tm 38)]
def pN:LSO:=[Ac 40 1 9,Ab 41 1 40,Ac 42 1 3,Ab 43 1 42,Af 44 43,Ac 45 2 3,Ab 46 1 45,AS 47 83 41 44 46,Ai 48 40 47,Ac 49 1 9,An 1 49 48]
def pM:LSO:=[Aa 50 8,Aa 51 6,AD 52 50 51,Aa 53 52,.grp none 53 true
 [Ay 54 53 0 3,Az 55 53 1 54,AX 56 53 55 3,Ae 57 53 56,.grp (some (53,true)) 57 false
 [AA 58 57 0 3,AB 59 57 1 58,AO 60 57 59 4]
 61 (tm 60)]
 62 (tm 61)]
def pL:LSO:=[Ac 63 3 3,Ab 64 1 63,Ai 65 16 64,Ac 66 2 9,An 1 66 65]
def pK:LSO:=[Aa 67 8,Aa 68 6,Bg 69 67 68,Aa 70 69,.grp none 70 false
 [AA 71 70 0 3,AB 72 70 1 71,Bb 73 70 72 2]
 74 (tm 73)]
def pJ:LSO:=[Aa 75 7,Ar 76 3 9,o1 77 (.bslice false 3 1 [(.int .i64 0),(.sl [] 0 (some 0)),(.sl [] 0 (some 0))] [(0,(3,(tm 76)))]),
 o1 78 (.app 1 3 56 [(.int .i64 0),(.sl [] 0 (some 0)),(.sl [] 0 (some 0))] (tm 75) (tm 77)),Aa 7 78]
def pI:LSO:=[Ah 79 25 1,Aa 25 79]
def pH:LSO:=[Ac 80 0 3,Ab 81 1 80,Ao 82 81 1]
def pG:LSO:=[Aa 83 0,As 84 83,Ac 85 2 84,Ab 86 1 85,Ah 87 86 1,As 88 83,Ac 89 2 88,An 1 89 87]
def pF:List (aw×Kd):=
 [AC 90 7,AC 91 0,AN 92 91 0 0,A0 93 2 92,A3 94 1 93 0 0,A0 95 1 3,A3 96 1 95 0 0,AY 97 40 96 0 0,A0 98 3 3,A3 99 1 98 0 0,AY 100 16 99 0 0,
 od 101 (.build [(.int .i64 0),(.sl [] 0 (some 0)),(.sl [] 0 (some 0))] [(0,(1,(tm 94))),(1,(1,(tm 97))),(2,(1,(tm 100)))]) .pure,
 od 102 (.bslice false 3 1 [(.int .i64 0),(.sl [] 0 (some 0)),(.sl [] 0 (some 0))] [(0,(3,(tm 101)))]) (.read 0 0)]
def nP:List aw :=
 [⟨(some 103),(.app 1 3 56 [(.int .i64 0),(.sl [] 0 (some 0)),(.sl [] 0 (some 0))] (tm 90) (tm 102)),none⟩,⟨(some 7),(.mv (tm 103)),none⟩]
def pE:LSO:=[Aa 104 0,Aa 105 7,As 106 104,Ac 107 1 106,An 1 107 105]
def pD:LSO:=[Ad 4 0]
def bV:aQ:=⟨108,(amF rY [] (amF rX Cp (.seq (amF rW Cl (amH 14 (.sreg rV Cl))) (amF rU Co (amF rT [] (.seq (amF rS CA (amI 0 (amF rR [] (.seq (amJ 26 0) (.seq (.block 1 (amF rQ Cv (.seq (amF rP Co (amG 39 (.sreg pN CH) .skip)) (.seq (amF pM Co (amG 62 (.sreg pL Cy) .skip)) (amF pK Co (amG 74 (.sreg pJ Co) .skip)))))) (.sreg pI Cl)))))) (.seq (amF pH Cm (amG 82 (amF pG CB (.dregM pF nP CM)) .skip)) (amF pE Cy (amF pD [] .ret))))))))),[(.tmp 4)]⟩
attribute [push_cast] rY rX rW rV rU rT rS rR rQ rP pN pM pL pK pJ pI pH pG pF nP pE pD
theorem em:amK 35=amL bV:=amO
def DS:LSO:=[Aj 4]
def DR:LSO:=[Aa 10 0,Ai 11 37 10,Aa 9 11,Ap 12 9,Aq 13 9,Aa 5 12,Aa 6 13]
def DQ:LSO:=[Aa 15 1,Ai 16 89 15,Aa 14 16,Ap 17 14,Aq 18 14,Aa 7 17,Aa 8 18]
def DP:LSO:=[Aa 19 6,A8 20 19 0,Aa 21 20,.grp none 21 false
 [Ag 22 21 8,Bb 23 21 22 0]
 24 (tm 23),Aa 25 24,.grp none 25 false
 [Ag 26 25 0,AM 27 25 26,Ag 28 25 1,AM 29 25 28,og 30 25 false (.bin .lss (tm 27) (tm 29))]
 31 (tm 30)]
def DO:LSO:=[Aj 4]
def DN:LSO:=[Aa 32 0,Aa 33 0,Af 34 33,Aa 35 1,Af 36 35,B8 37 34 36,BU 38 32 37,Ai 39 90 38,Ai 40 88 39,Aa 41 7,AD 42 40 41,Aa 4 42]
def dh:aQ:=⟨43,(amF DS [] (amF DR Cr (amF DQ Cw (.seq (amF DP Cq (amH 31 (.sreg DO []))) (amF DN C4 .ret))))),[(.tmp 4)]⟩
attribute [push_cast] DS DR DQ DP DO DN
theorem gW:amK 38=amL dh:=amO
def H4:LSO:=[Ak 2]
def H3:LSO:=[Ak 3]
def H2:LSO:=[Aa 6 0,Af 7 6,Ad 8 0]
def H1:LSO:=[Al 9 8 7]
def H0:LSO:=[Am 10 1 6 8,Ab 11 1 10,Aa 5 11]
def HZ:LSO:=[Aa 12 3,o1 13 (.bslice false 2 0 [] []),Aa 14 5,o1 15 (.app 0 2 32 [(.str []),(.str [])] (tm 13) (tm 14)),Bf 16 15,Bd 17 12 16,Aa 3 17]
def HY:LSO:=[Ah 18 8 1,Aa 8 18]
def HX:LSO:=[Aa 19 3,Aa 2 19]
def yo:aQ:=⟨20,(amF H4 [] (amF H3 [] (.seq (amF H2 [] (amI 0 (amF H1 [] (.seq (amJ 9 0) (.seq (.block 1 (amF H0 Cm (.sreg HZ Cr))) (.sreg HY Cl)))))) (amF HX Cl .ret)))),[(.tmp 2)]⟩
attribute [push_cast] H4 H3 H2 H1 H0 HZ HY HX
theorem TE:aR Tryz.prog (λr i=>if r=5/\i=3 then 0 else 1) 40=some yo.raw:=amO
attribute [push_cast] gM gw jx fc jw tt aj bV dh yo
variable {L:List Blk}{K:ajq}
set_option maxHeartbeats 8000000
set_option maxRecDepth 100000
def dnM(d:List Rdn):Prop:=d.length<=1100000/\∀r∈d,r.length<=1100000/\∀a∈r,(a.1.length:Int)<=140737488351232
theorem dnM.b(h:dnM d):dnB d:=⟨h.1,λr hr=>(h.2 r hr).1⟩
theorem UM(h:OkD d):d.length<=1000/\∀r∈d,r.length<=1000/\∀a∈r,a.1.length<=10000/\a.2.length<=10000:=by obtain⟨q1,q2⟩:=UE h;exact⟨amM,λr hr=>⟨by have:=(q2 r hr).1;omega,λa ha=>⟨by have:=((q2 r hr).2 a ha).1;omega,by have:=((q2 r hr).2 a ha).2;omega⟩⟩⟩
theorem OkD.m(h:OkD d):dnM d:=⟨by have:=(UM h).1;omega,λr hr=>⟨by have:=((UM h).2 r hr).1;omega,λa ha=>by have:=(((UM h).2 r hr).2 a ha).1;omega⟩⟩
theorem afE(hd:OkD d)(h:K (.str (aP true d)) L):
  ajp 85 [.sl (d.map ah) d.length cap,.bool true] L K:=by
 obtain⟨q1,q2⟩:=UE hd;have hrl:∀r∈d,(cP true r).length<=200000:=λr hr=>OY (q2 r hr).1 (λa ha=>((q2 r hr).2 a ha).1) (λa ha=>((q2 r hr).2 a ha).2)
 have htl:=OR amM hrl;exact aaZ (UM hd).1 (UM hd).2 (λr hr=>by have:=hrl r hr;omega) amM h
theorem adI(hd:OkD d)(h:K (.str (aP true d)) L):
  ajp 88 [.sl ((fU d).map ah) d.length cap] L K:=by
 have hb:=UM hd;have hb2:∀r∈fU d,r.length<=1000/\∀a∈r,a.1.length<=10000/\a.2.length<=10000:=λr hr=>by obtain⟨r0,hr0,rfl⟩:=ajy.1 hr;exact⟨by rw[pZ];exact(hb.2 r0 hr0).1,UG (hb.2 r0 hr0).2⟩
 have:=@TW (fU d) cap (by rw[Ob];exact hb.1) hb2 L K (by rw[xR];exact h);rwa[Ob]at this
theorem OO{b:List Rdn}(hd:dnB d)(hb:dnB b)(h:K (.bool (bA d b)) L):
  ajp 62 [.sl (d.map ah) d.length cap,.sl (b.map ah) b.length cap'] L K:=by
 have e0:bA d b=(decide (OkD d)&&decide (OkD b)&&decide (b.length<=d.length)&&decide (aP true (d.drop (d.length-b.length))=aP true b)):=rfl;obtain⟨⟨ps,pe⟩,hp⟩:∃q,prS d=q:=⟨_,rfl⟩;obtain⟨⟨ns,ne⟩,hn⟩:∃q,tf b=q:=⟨_,rfl⟩;have kk1:Hid (Ctr Tryz.prog 36 [.sl (d.map ah) d.length cap] (.tup [.str ps,.int .i64 pe])):=@hid _ (by intro L K q;exact jm hd.1 hd.2 (by rw[hp];exact q));have kk2:Hid (Ctr Tryz.prog 58 [.sl (b.map ah) b.length cap'] (.tup [.str ns,.int .i64 ne])):=@hid _ (by intro L K q;exact Rz hb.1 hb.2 (by rw[hn];exact q));have p1:OkD d↔pe=0:=by unfold OkD;rw[hp]
 by_cases h1:pe=0;rotate_left;rw[e0,decide_eq_false (λc=>h1 (p1.1 c))]at h;simp only[akp]at h;replace h:=hid h;clear hp hn e0 p1 hd hb;refine ajo kH ?_;exact ac h.o;have hod:OkD d:=p1.2 h1;by_cases h2:ne=0;rotate_left;rw[e0,decide_eq_false (p:=OkD b) (λc=>h2 (by have:=eu c;rw[hn]at this;injection this))]at h;simp only[akp,al5]at h;replace h:=hid h;subst h1;clear hp hn e0 p1 hd hb hod;refine ajo kH ?_;exact ac h.o;have hob:OkD b:=by by_cases c:OkD b;exact c;exact absurd (by rw[hn];exact h2) (xT c)
 have hns:ns=aP true b:=by have:=eu hob;rw[hn]at this;injection this
 rw[decide_eq_true hod,decide_eq_true hob]at e0;simp only[aj7]at e0;subst h1 h2;by_cases h3:b.length<=d.length;rotate_left;rw[e0,decide_eq_false h3]at h;simp only[akp]at h;replace h:=hid h;have g1:(d.length:Int)<(b.length:Int):=amM;clear hp hn e0 p1 hd hb hod hob hns;refine ajo kH ?_;exact ac h.o;rw[e0,decide_eq_true h3,<- hns]at h;simp only[aj7]at h;obtain⟨k,hk⟩:=ajl (d.length-b.length);rw[hk]at h;have kk3:Hid (∀{c:Option Nat}{L:List Blk}{K:ajq},K (.str (aP true (d.drop k))) L->ajp 85 [.sl (List.take (d.length-k) (List.drop k (d.map ah))) (d.length-k) c,.bool true] L K):=@hid _ (by intro c L K q;have:=afE (cap:=c) (hod.drop k) q;rw[akQ]at this;rw[<- List.map_drop,aj3 amN];exact this)
 have g1:¬(d.length:Int)<(b.length:Int):=amM;have hl:d.length<=32:=hod.len;have g2:IntKind.i64.wrap ((d.length:Int)-(b.length:Int))=(k:Int):=by rw[ae amM amM];omega
 have g3:(k:Int)<=(d.length:Int):=amM;replace h:=hid h;clear hp hn e0 p1 hd hb hod hob hns hk h3 hl;refine ajo kH ?_;exact ac h.o
theorem kO{b:List Rdn}(hd:dnM d)(hb:dnM b)(h:K (.bool (bA d b)) L):
  ajp 38 [.sl (d.map ah) d.length cap,.sl (b.map ah) b.length cap'] L K:=by
 have e0:bA d b=(decide (OkD d)&&decide (OkD b)&&decide (b.length<=d.length)&&decide (aP true (d.drop (d.length-b.length))=aP true b)):=rfl;obtain⟨⟨ps,pe⟩,hp⟩:∃q,prS d=q:=⟨_,rfl⟩;obtain⟨⟨ns,ne⟩,hn⟩:∃q,tf b=q:=⟨_,rfl⟩;have kk1:Hid (Ctr Tryz.prog 37 [.sl (d.map ah) d.length cap] (.tup [.str ps,.int .i64 pe])):=@hid _ (by intro L K q;exact gO hd.1 hd.2 (by rw[hp];exact q));have kk2:Hid (Ctr Tryz.prog 89 [.sl (b.map ah) b.length cap'] (.tup [.str ns,.int .i64 ne])):=@hid _ (by intro L K q;exact tN hb.1 hb.2 (by rw[hn];exact q));have p1:OkD d↔pe=0:=by unfold OkD;rw[hp]
 by_cases h1:pe=0;rotate_left;rw[e0,decide_eq_false (λc=>h1 (p1.1 c))]at h;simp only[akp]at h;replace h:=hid h;clear hp hn e0 p1 hd hb;refine ajo gW ?_;exact ac h.o;have hod:OkD d:=p1.2 h1;by_cases h2:ne=0;rotate_left;rw[e0,decide_eq_false (p:=OkD b) (λc=>h2 (by have:=eu c;rw[hn]at this;injection this))]at h;simp only[akp,al5]at h;replace h:=hid h;subst h1;clear hp hn e0 p1 hd hb hod;refine ajo gW ?_;exact ac h.o;have hob:OkD b:=by by_cases c:OkD b;exact c;exact absurd (by rw[hn];exact h2) (xT c)
 have hns:ns=aP true b:=by have:=eu hob;rw[hn]at this;injection this
 rw[decide_eq_true hod,decide_eq_true hob]at e0;simp only[aj7]at e0;subst h1 h2;by_cases h3:b.length<=d.length;rotate_left;rw[e0,decide_eq_false h3]at h;simp only[akp]at h;replace h:=hid h;have g1:(d.length:Int)<(b.length:Int):=amM;clear hp hn e0 p1 hd hb hod hob hns;refine ajo gW ?_;exact ac h.o;rw[e0,decide_eq_true h3,<- hns]at h;simp only[aj7]at h;obtain⟨k,hk⟩:=ajl (d.length-b.length);rw[hk]at h;have kk3:Hid (∀{c:Option Nat}{L:List Blk}{K:ajq},K (.sl ((fU (d.drop k)).map ah) (d.length-k) none) L->ajp 90 [.sl (List.take (d.length-k) (List.drop k (d.map ah))) (d.length-k) c] L K):=@hid _ (by intro c L K q;have hb:=UM (hod.drop k);have:=@Yt (d.drop k) c hb.1 hb.2 L K (by rw[akQ];exact q);rw[akQ]at this;rw[<- List.map_drop,aj3 amN];exact this)
 have kk4:Hid (∀{c:Option Nat}{L:List Blk}{K:ajq},K (.str (aP true (d.drop k))) L->ajp 88 [.sl ((fU (d.drop k)).map ah) (d.length-k) c] L K):=@hid _ (by intro c L K q;have:=adI (cap:=c) (hod.drop k) q;rw[akQ]at this;exact this)
 have g1:¬(d.length:Int)<(b.length:Int):=amM;have hl:d.length<=32:=hod.len;have g2:IntKind.i64.wrap ((d.length:Int)-(b.length:Int))=(k:Int):=by rw[ae amM amM];omega
 have g3:(k:Int)<=(d.length:Int):=amM;replace h:=hid h;clear hp hn e0 p1 hd hb hod hob hns hk h3 hl;refine ajo gW ?_;exact ac h.o
abbrev aA:=Ent (List Atr)
variable {l:List aA}
instance:Inhabited aA:=⟨⟨0,[],[]⟩⟩
def atR(v:List Atr):AV:=.sl (aB v) v.length none
def Om(x:aA):List AV:=[.int .i64 x.id,dnA x.nm,atR x.av]
def aX(l:List aA):List AV:=l.flatMap Om
theorem oP(l:List aA):(aX l).length=l.length*3:=by
 induction l with
 |nil=>rfl
 | cons x l ih =>
   unfold aX at ih⊢;rw[aj5,ajA,ih,ajz];simp only[Om,ajz,aj9];omega
theorem xC(l m:List aA):aX (l++m)=aX l++aX m:=by simp[aX]
theorem aaB(l:List aA)(k:Nat):(aX l).drop (k*3)=aX (l.drop k):=by
 induction l generalizing k with
 |nil=>simp[aX]
 | cons x l ih =>
   cases k with
   |zero=>simp
   | succ k =>
     rw[alR,<- ih k,show(k+1)*3=k*3+1+1+1 by omega];simp[aX,Om]
theorem qd(h:k<l.length):((aX l).drop (k*3)).take 3=Om (l.getD k default):=by rw[aaB,ajY h,show l.getD k default=l[k]by simp[h]];unfold aX;rw[aj5];rfl
theorem xA(h:k<l.length):(aX l).getD (k*3) .undef=.int .i64 (l.getD k default).id/\(aX l).getD (k*3+1) .undef=dnA (l.getD k default).nm/\(aX l).getD (k*3+2) .undef=atR (l.getD k default).av:=by
 have hh:∀j,j<3->(aX l).getD (k*3+j) .undef=(Om (l.getD k default)).getD j .undef:=λj hj=>by have h3:=congrArg (λl=>l[j]?) (qd h);simp only[akj hj,aki]at h3;rw[ajO,h3];exact(ajO ..).symm
 exact⟨by have:=hh 0 amM;simpa[Om]using this,by have:=hh 1 amM;simpa[Om]using this,by have:=hh 2 amM;simpa[Om]using this⟩
theorem Yl(hn:d.length<=1100000)(hr:∀r∈d,r.length<=1100000)(h:K (dnA d) L):
  ajp 40 [.sl (d.map ah) d.length cap] L K:=by
 replace h:=hid h;have hat:=hid (λk=>@kc d k);replace hr:=hid hr;refine ajo TE ?_;refine bK (l:=[]) (n:=0) 3 1 rfl (ajX 1).symm ?_;refine aq (λm T' L'=>∃(k:Nat) (C:List AV) (X:List Blk),m=d.length-k/\k<=d.length/\Hid (C=(d.take k).map ah)/\T'=[(8,.int .i64 (k:Int)),(7,.int .i64 d.length),(6,.sl (d.map ah) d.length cap),(3,.gsl C k L.length 1)]/\L'=L++(.spare k 1::X)) amQ ⟨0,[],[],rfl,aju _,hid rfl,rfl,amN⟩ ?_;rintro _ _ _ ⟨k,C,X,rfl,hk,hC,rfl,rfl⟩;by_cases hlt:k<d.length;have g1:(k:Int)<(d.length:Int):=amM;have g2:=ajn k amM;have e2:=hat.o k hlt;have e3:k<(d.map ah).length:=by simpa using hlt
 obtain⟨r,hri⟩:=ajl (d.getD k []);have hrl:=hr.o r (by rw[<- hri];simp[hlt]);have htk:(d.take (k+1)).map ah=C++[.sl (aL r) r.length none]:=by rw[hC.o,ajN hlt,ajV,show d[k]=r by rw[<- hri];simp[hlt]];rfl
 rw[hri]at e2;have e4:=fK r;have e5:=cJ r;replace htk:=hid htk;clear hri hC;refine wk ?_;exact amR amM amP ⟨k+1,_,_,rfl,hlt,hid htk.o.symm,rfl,rfl⟩;have hke:k=d.length:=amM;subst hke;have g1:¬(d.length:Int)<(d.length:Int):=amM;have hC2:=hC.o;rw[ajL]at hC2;subst hC2;clear hC;refine wk ?_;refine aJ ?_;simp only[AV.frz,aY];exact ab (by simp only[AV.refs,dX]) h.o
def plI(o:Option Nat):Int:=match o with|some i=>(i:Int)|none=>-1
theorem W0{f:β->Bool}{l:List β}[Inhabited β](hk:k<l.length)(h:∀j,j<k->f (l.getD j default)=false)(hf:f (l.getD k default)=true):l.findIdx? f=some k:=by rw[List.findIdx?_eq_some_iff_getElem];refine⟨hk,by simpa[hk]using hf,λj hj=>?_⟩;have:=h j hj;simpa[show j<l.length by omega]using this
theorem W2{f:β->Bool}{l:List β}[Inhabited β](h:∀j,j<l.length->f (l.getD j default)=false):l.findIdx? f=none:=by rw[ame];intro x hx;obtain⟨j,hj,e⟩:=akk.1 hx;have:=h j hj;rw[<- e];simpa[hj]using this
def byI(l:List aA)(id:Int):Int:=plI (l.findIdx? λx=>decide (x.id=id))
def atI(l:List aA)(d:List Rdn):Int:=if OkD d then plI (l.findIdx? λx=>decide (NK x.nm=NK d))else -1
theorem af9{id:Int}{b:AV}(hn:l.length<=1100000){L:List Blk}(hL:L[rt]?=some (.cells [a,.sl (aX l) l.length c,b])){K:ajq}(h:K (.int .i64 (byI l id)) L):
  ajp 186 [.ptr rt 0,.int .i64 id] L K:=by
 obtain⟨R,hR⟩:=ajl (byI l id);rw[hR]at h;replace h:=hid h;replace hR:=hid hR;have hel:=oP l;refine ajo JD ?_;refine aq (λm T' L'=>∃k:Nat,m=l.length-k/\k<=l.length/\Hid (∀j,j<k->¬(l.getD j default).id=id)/\T'=[(11,.int .i64 (k:Int)),(10,.int .i64 l.length),(0,.ptr rt 0),(1,.int .i64 id)]/\L=L') (CutS (b:=ajs _)) ⟨0,rfl,aju _,hid (λj hj=>absurd hj (alX _)),rfl,rfl⟩ ?_;rintro _ _ L' ⟨k,rfl,hk,hI,rfl,e⟩;subst e;by_cases hlt:k<l.length;have g1:(k:Int)<(l.length:Int):=amM;have g2:=ajn k amM;have e4:k*3+2<(aX l).length:=by rw[hel];omega
 have e4':k*3<(aX l).length:=amM;obtain⟨e5,_,_⟩:=xA hlt;obtain⟨x,hx⟩:=ajl (l.getD k default);rw[hx]at e5;by_cases hid':x.id=id;have hr:R=(k:Int):=by rw[<- hR.o];unfold byI;rw[W0 hlt (λj hj=>decide_eq_false (hI.o j hj)) (by rw[hx];simpa using hid')];rfl
 have h':=h.o;rw[hr]at h';replace h':=hid h';obtain⟨xi,hxi⟩:=ajl (x.id);rw[hxi]at e5 hid';subst hid';clear hx hxi hI hR hr;refine wk ?_;exact ac h'.o;obtain⟨xi,hxi⟩:=ajl (x.id);rw[hxi]at e5 hid';have hI':=hid (λj (hj:j<k+1)=>show ¬(l.getD j default).id=id from by by_cases e:j=k;subst e;rw[hx,hxi];exact hid';exact hI.o j amM)
 clear hx hxi hI hR;refine wk ?_;exact amR amM amP ⟨k+1,rfl,hlt,hI',rfl,rfl⟩;have hke:k=l.length:=amM;subst hke;have g1:¬(l.length:Int)<(l.length:Int):=amM;have hr:R=-1:=by rw[<- hR.o];unfold byI;rw[W2 (f:=λx:aA=>decide (x.id=id)) (l:=l) λj hj=>decide_eq_false (hI.o j hj)];rfl
 have h':=h.o;rw[hr]at h';replace h':=hid h';clear hI hR hr;refine wk ?_;exact ac h'.o
theorem YB(ho:∀x∈l,OkD x.nm)(hd:dnM d){b:AV}(hn:l.length<=1100000){L:List Blk}(hL:L[rt]?=some (.cells [a,.sl (aX l) l.length c,b])){K:ajq}(h:K (.int .i64 (atI l d)) L):
  ajp 82 [.ptr rt 0,.sl (d.map ah) d.length cap] L K:=by
 obtain⟨⟨ns,ne⟩,hns⟩:∃q,tf d=q:=⟨_,rfl⟩;have kk1:Hid (Ctr Tryz.prog 89 [.sl (d.map ah) d.length cap] (.tup [.str ns,.int .i64 ne])):=@hid _ (by intro L K q;exact tN hd.1 hd.2 (by rw[hns];exact q));have hel:=oP l;by_cases h0:ne=0;rotate_left;have hod:¬OkD d:=λc=>h0 (by have:=eu c;rw[hns]at this;injection this)
 unfold atI at h;rw[if_neg hod]at h;replace h:=hid h;clear hns hod ho hd;refine ajo qi ?_;refine aq (λm T' L'=>m=1/\T'=[(7,.int .i64 0),(6,.int .i64 ne),(5,.str ns),(0,.ptr rt 0)]/\L=L') (CutS (b:=ajs _)) ⟨rfl,rfl,rfl⟩ ?_;rintro _ _ _ ⟨rfl,rfl,rfl⟩;refine wk ?_;exact ac h.o;have hod:OkD d:=by by_cases c:OkD d;exact c;exact absurd (by rw[hns];exact h0) (xT c)
 have hs:ns=aP true d:=by have:=eu hod;rw[hns]at this;injection this
 subst h0;obtain⟨R,hR⟩:=ajl (plI (l.findIdx? λx=>decide (NK x.nm=NK d)));unfold atI at h;rw[if_pos hod,hR]at h;replace h:=hid h;replace hR:=hid hR;have heq:=hid (λ(x:aA) (hx:x∈l)=>show aP true x.nm=ns↔NK x.nm=NK d by rw[hs];exact gN (ho x hx) hod);replace ho:=hid ho;clear hns hs hod hd;refine ajo qi ?_;refine aq (λm T' L'=>∃k:Nat,m=l.length-k/\k<=l.length/\Hid (∀j,j<k->¬NK (l.getD j default).nm=NK d)/\T'=[(7,.int .i64 (k:Int)),(6,.int .i64 0),(5,.str ns),(0,.ptr rt 0)]/\L=L') (CutS (b:=ajs _)) ⟨0,rfl,aju _,hid (λj hj=>absurd hj (alX _)),rfl,rfl⟩ ?_;rintro _ _ L' ⟨k,rfl,hk,hI,rfl,e⟩;subst e;by_cases hlt:k<l.length;have g1:(k:Int)<(l.length:Int):=amM;have g2:=ajn k amM;have e4:k*3+1<(aX l).length:=by rw[hel];omega
 obtain⟨_,e5,_⟩:=xA hlt;obtain⟨x,hx⟩:=ajl (l.getD k default);rw[hx]at e5;have hxm:x∈l:=by rw[<- hx];simp[hlt]
 have hq:=heq.o x hxm;have hox:=ho.o x hxm;obtain⟨m,hm⟩:=ajl (aP true x.nm);have kk2:Hid (Ctr Tryz.prog 89 [.sl (x.nm.map ah) x.nm.length none] (.tup [.str m,.int .i64 0])):=@hid _ (by intro L K q;exact tN hox.m.1 hox.m.2 (by rw[eu hox,hm];exact q));rw[hm]at hq;obtain⟨xn,hxn⟩:=ajl (x.nm);rw[hxn]at e5 kk2;by_cases hms:m=ns;have hr:R=(k:Int):=by rw[<- hR.o,W0 hlt (λj hj=>decide_eq_false (hI.o j hj)) (by rw[hx];exact decide_eq_true (hq.1 hms))];rfl
 have h':=h.o;rw[hr]at h';replace h':=hid h';subst hms;clear hx hxm hI hR hr hq hox hm hxn heq ho;refine wk ?_;exact ac h'.o;have hms':¬ns=m:=λe=>hms e.symm
 have hI':=hid (λj (hj:j<k+1)=>show ¬NK (l.getD j default).nm=NK d from by
  by_cases e:j=k;subst e;rw[hx];exact λc=>hms (hq.2 c)
  exact hI.o j amM)
 clear hx hxm hI hR hq hox hm hxn heq ho;refine wk ?_;exact amR amM amP ⟨k+1,rfl,hlt,hI',rfl,rfl⟩;have hke:k=l.length:=amM;subst hke;have g1:¬(l.length:Int)<(l.length:Int):=amM;have hr:R=-1:=by rw[<- hR.o,W2 (f:=λx:aA=>decide (NK x.nm=NK d)) (l:=l) λj hj=>decide_eq_false (hI.o j hj)];rfl
 have h':=h.o;rw[hr]at h';replace h':=hid h';clear hI hR hr heq ho;refine wk ?_;exact ac h'.o
abbrev TKy:=List UInt8×Int×Nat
variable {rs:List TKy}
def kyA(r:TKy):AV×AV×Nat:=(.str r.1,.int .i64 r.2.1,r.2.2)
def fG(nb bn:Int->Nat)(x:aA):AV×AV×Nat:=(.int .i64 x.id,.ptr (nb x.id) 0,bn x.id)
def kk(l:List aA)(x:aA):List AV:=[dnA x.nm,.sl (aC (pth x)) x.nm.length none,atR x.av,.int .i64 (aZ (dx l) (NK x.nm):Nat)]
structure bO(L:List Blk)(iv mn mi:Nat)(nb bn:Int->Nat)(ck ci:Nat)(rs:List TKy)(suf:List Rdn)(last:Int)(l:List aA):Prop where
 v:L[iv]?=some (.cells [dnA suf,.lmap mn,.lmap mi,.int .i64 last])
 n:L[mn]?=some (.map (l.map (fG nb bn)) ck)
 i:L[mi]?=some (.map (rs.map kyA) ci)
 nd:∀x∈l,L[nb x.id]?=some (.cells (kk l x))
 keys:(rs.map (·.1)).Nodup
 mem:∀k id,(∃b,(k,id,b)∈rs)↔∃x∈l,aP true x.nm=k/\x.id=id
 bnd:(l.map λx=>bn x.id).Nodup
 blt:∀x∈l,bn x.id<ck
theorem bO.app{L:List Blk}{iv:Nat}(h:bO L iv mn mi nb bn ck ci rs suf last l)(X:List Blk):bO (L++X) iv mn mi nb bn ck ci rs suf last l:=by
 have key:∀{i:Nat}{b:Blk},L[i]?=some b->(L++X)[i]?=some b:=λ{i b} e=>by rw[ajw (ajr.1 e).1];exact e
 exact⟨key h.v,key h.n,key h.i,λx hx=>key (h.nd x hx),h.keys,h.mem,h.bnd,h.blt⟩
theorem xt:∀(rs:List TKy) (k:List UInt8) (j:Nat),cY (.str k) (rs.map kyA) j=some ((rs.findIdx? λr=>decide (r.1=k)).map λn=>(j+n,.int .i64 (rs.getD n default).2.1))
 |[],k,j=>rfl
 | r::rs,k,j=>by
   by_cases h:k=r.1
   .subst h;simp[cY,kyA,Fs,alk]
   .have h':¬r.1=k:=λe=>h e.symm
    simp only[ajP,kyA,cY,Fs,decide_eq_false h,alk,decide_eq_false h',ajK,if_false];have ih:=xt rs k (j+1);rw[ih];cases rs.findIdx? (λr=>decide (r.1=k))with
    |none=>rfl
    |some n=>simp only[ajQ];rw[show j+1+n=j+(n+1)by omega];rfl
theorem xq(nb bn:Int->Nat):∀(l:List aA) (id:Int) (j:Nat),cY (.int .i64 id) (l.map (fG nb bn)) j=some ((l.findIdx? λx=>decide (x.id=id)).map λn=>(j+n,.ptr (nb id) 0))
 |[],id,j=>rfl
 | x::l,id,j=>by
   by_cases h:id=x.id
   .subst h;simp[cY,fG,Fs,alk]
   .have h':¬x.id=id:=λe=>h e.symm
    simp only[ajP,fG,cY,Fs,if_true,decide_eq_false h,alk,decide_eq_false h',ajK,if_false];have ih:=xq nb bn l id (j+1);rw[ih];cases l.findIdx? (λx=>decide (x.id=id))with
    |none=>rfl
    |some n=>simp only[ajQ];rw[show j+1+n=j+(n+1)by omega]
theorem eU{f:β->Bool}{l:List β}[Inhabited β]:(l.findIdx? f=none/\l.find? f=none)\/∃n,l.findIdx? f=some n/\n<l.length/\l.find? f=some (l.getD n default):=by
 induction l with
 |nil=>exact .inl ⟨rfl,rfl⟩
 | cons x l ih =>
   by_cases h:f x=true
   .exact .inr ⟨0,by simp[alk,h],amN,by simp[aln,h]⟩
   .rcases ih with⟨h1,h2⟩|⟨n,h1,h2,h3⟩
    .exact .inl ⟨by simp[alk,h,h1],by simp[aln,h,h2]⟩
    .exact .inr ⟨n+1,by simp[alk,h,h1],by simpa using h2,by simp[aln,h,h3]⟩
theorem bO.look{L:List Blk}{iv:Nat}(h:bO L iv mn mi nb bn ck ci rs suf last l)(ht:TOk suf last l)(hd:OkD d):
  (aV l d=0/\atE l d=none/\cY (.str (aP true d)) (rs.map kyA) 0=some none)\/∃j,cY (.str (aP true d)) (rs.map kyA) 0=some (some (j,.int .i64 (aV l d))):=by
 rw[xt];rcases eU (f:=λr:TKy=>decide (r.1=aP true d)) (l:=rs)with⟨h1,h2⟩|⟨n,h1,hn,h2⟩;left;have hno:atE l d=none:=qt.2 λ_ x hx e=>by obtain⟨b,hb⟩:=(h.mem (aP true x.nm) x.id).2 ⟨x,hx,rfl,rfl⟩;have:=akJ.1 h2 _ hb;simp only[decide_eq_true_eq]at this;exact this ((gN (ht.ok x hx) hd).2 e)
 exact⟨ht.find0.2 hno,hno,by rw[h1];rfl⟩;right;refine⟨n,?_⟩;obtain⟨⟨k,id,b⟩,hr⟩:∃r,rs.getD n default=r:=⟨_,rfl⟩;have hm:=ak6 h2;have hk:k=aP true d:=by have:=ak7 h2;rw[hr]at this;simpa using this
 rw[hr]at hm;obtain⟨x,hx,e1,e2⟩:=(h.mem k id).1 ⟨b,hm⟩;have:atE l d=some x:=ht.at hx hd ((gN hd (ht.ok x hx)).1 (by rw[<- hk,e1]));rw[h1];simp only[ajQ,hr,akw,aV,this,e2]
theorem qB(hd:dnB d){L:List Blk}{iv:Nat}(ht:TOk suf last l)(hc:bO L iv mn mi nb bn ck ci rs suf last l){K:ajq}(h:K (.int .i64 (aV l d)) L):
  ajp 24 [.ptr iv 0,.sl (d.map ah) d.length cap] L K:=by
 replace h:=hid h;obtain⟨⟨s,e⟩,hse⟩:∃q,tf d=q:=⟨_,rfl⟩;have kk1:Hid (Ctr Tryz.prog 58 [.sl (d.map ah) d.length cap] (.tup [.str s,.int .i64 e])):=@hid _ (by intro L K q;exact Rz hd.1 hd.2 (by rw[hse];exact q));have hv:=hc.v;have hi:=hc.i;by_cases he:e=0;subst he;have hod:OkD d:=by by_cases c:OkD d;exact c;exact absurd (by rw[hse]) (xT c)
 have hs:s=aP true d:=by have:=eu hod;rw[hse]at this;injection this
 rcases hc.look ht hod with⟨h0,_,h1⟩|⟨j,h1⟩;rw[<- hs]at h1;rw[h0]at h;have hkf:bw .str (.str s)=true:=rfl;clear hse hc hs;refine ajo cV ?_;exact ac h.o;rw[<- hs]at h1;have hkf:bw .str (.str s)=true:=rfl;obtain⟨z,hz⟩:=ajl (aV l d);rw[hz]at h h1;clear hse hc hs hz;refine ajo cV ?_;exact ac h.o;have h0:aV l d=0:=by refine ht.find0.2 (qt.2 λc=>?_);have:=eu c;rw[hse]at this;exact absurd (by injection this) he
 rw[h0]at h;clear hse hc;refine ajo cV ?_;exact ac h.o
theorem yA(l:List aA)(d:List Rdn):(atI l d=-1/\atE l d=none)\/∃n:Nat,n<l.length/\atI l d=n/\atE l d=some (l.getD n default):=by unfold atI atE;by_cases h:OkD d;rw[if_pos h,if_pos h];rcases eU (f:=λx:aA=>decide (NK x.nm=NK d)) (l:=l)with⟨h1,h2⟩|⟨n,h1,h2,h3⟩;exact .inl ⟨by rw[h1];rfl,h2⟩;exact .inr ⟨n,h2,by rw[h1];rfl,h3⟩;rw[if_neg h,if_neg h];exact .inl ⟨rfl,rfl⟩
theorem aeL(l:List aA)(id:Int):(byI l id=-1/\l6 l id=none)\/∃n:Nat,n<l.length/\byI l id=n/\l6 l id=some (l.getD n default):=by unfold byI l6;rcases eU (f:=λx:aA=>decide (x.id=id)) (l:=l)with⟨h1,h2⟩|⟨n,h1,h2,h3⟩;exact .inl ⟨by rw[h1];rfl,h2⟩;exact .inr ⟨n,h2,by rw[h1];rfl,h3⟩
theorem af2(ht:TOk suf last l){id:Int}{b:AV}(hn:l.length<=1100000){L:List Blk}(hL:L[rt]?=some (.cells [a,.sl (aX l) l.length c,b])){K:ajq}(h:K (.int .i64 (gE l id:Nat)) L):
  ajp 130 [.ptr rt 0,.int .i64 id] L K:=by
 have kk1:Hid (∀{K:ajq},K (.int .i64 (byI l id)) L->ajp 186 [.ptr rt 0,.int .i64 id] L K):=@hid _ (by intro K q;exact af9 hn hL q);have hel:=oP l;unfold gE at h;rcases aeL l id with⟨e1,e2⟩|⟨n,hlt,e1,e2⟩;rw[e2]at h;rw[e1]at kk1;replace h:=hid h;clear e1 e2 ht;refine ajo l9 ?_;refine aq (λm T' L'=>∃k:Nat,m=l.length-k/\k<=l.length/\T'=[(16,.int .i64 (k:Int)),(15,.int .i64 l.length),(6,.int .i64 0),(5,.int .i64 (-1)),(0,.ptr rt 0)]/\L=L') (CutS (b:=ajs _)) ⟨0,rfl,aju _,rfl,rfl⟩ ?_;rintro _ _ L' ⟨k,rfl,hk,rfl,e⟩;subst e;by_cases hkl:k<l.length;have g1:(k:Int)<(l.length:Int):=amM;have g2:=ajn k amM;refine wk ?_;exact amR amM amP ⟨k+1,rfl,hkl,rfl,rfl⟩;have hke:k=l.length:=amM;subst hke;have g1:¬(l.length:Int)<(l.length:Int):=amM;refine wk ?_;exact ac h.o;rw[e2]at h;rw[e1]at kk1;have hxm:l.getD n default∈l:=by simp[hlt]
 simp only at h;rw[ht.kids hxm]at h;obtain⟨_,e5,_⟩:=xA hlt;have hox:=ht.ok _ hxm;obtain⟨xn,hxn⟩:=ajl ((l.getD n default).nm);rw[hxn]at e5 h hox;have e4:n*3+1<(aX l).length:=by rw[hel];omega
 have g0:(0:Int)<=(n:Int):=amM;obtain⟨R,hR⟩:=ajl ((l.filter λk=>decide (k.nm.length=xn.length+1)&&bA k.nm xn).length);rw[hR]at h;have hlim:∀k,((l.take k).filter λk=>decide (k.nm.length=xn.length+1)&&bA k.nm xn).length<=l.length:=λk=>ajU (ak9 _ _) (by simp;omega)
 replace hlim:=hid hlim;replace h:=hid h;replace hR:=hid hR;have ho:=hid ht.ok;have kU:Hid (∀y∈l,∀{K:ajq},K (.bool (bA y.nm xn)) L->ajp 38 [dnA y.nm,dnA xn] L K):=@hid _ (by intro y hy K q;exact kO (ho.o y hy).m hox.m q);have hw:IntKind.i64.wrap ((xn.length:Int)+1)=(xn.length:Int)+1:=by have:=hox.len;exact ae amM amM
 clear e1 e2 ht hxm hxn hox;refine ajo l9 ?_;refine aq (λm T' L'=>∃(k s:Nat),m=l.length-k/\k<=l.length/\Hid (((l.take k).filter λk=>decide (k.nm.length=xn.length+1)&&bA k.nm xn).length=s)/\T'=[(16,.int .i64 (k:Int)),(15,.int .i64 l.length),(6,.int .i64 (s:Int)),(5,.int .i64 (n:Int)),(0,.ptr rt 0)]/\L=L') (CutS (b:=ajs _)) ⟨0,0,rfl,aju _,hid rfl,rfl,rfl⟩ ?_;rintro _ _ L' ⟨k,s,rfl,hk,hI,rfl,e⟩;subst e;by_cases hkl:k<l.length;have g1:(k:Int)<(l.length:Int):=amM;have g2:=ajn k amM;obtain⟨_,e6,_⟩:=xA hkl;have e7:k*3+1<(aX l).length:=by rw[hel];omega
 have hym:l.getD k default∈l:=by simp[hkl]
 have htk:l.take (k+1)=l.take k++[l.getD k default]:=by rw[ajN hkl];simp[hkl]
 obtain⟨y,hy⟩:=ajl (l.getD k default);rw[hy]at e6 hym htk;have kk2:=@hid _ (λ{K:ajq}=>kU.o y hym (K:=K));have hs:=hlim.o k;rw[hI.o]at hs;have g3:=ajn s amM;have hI':((l.take (k+1)).filter λk=>decide (k.nm.length=xn.length+1)&&bA k.nm xn).length=s+(if y.nm.length=xn.length+1 then if bA y.nm xn=true then 1 else 0 else 0):=by rw[htk,alV,ajA,hI.o];congr 1;by_cases c1:y.nm.length=xn.length+1;cases c2:bA y.nm xn<;>simp[c1,c2];simp[c1]
 obtain⟨yn,hyn⟩:=ajl (y.nm);rw[hyn]at e6 kk2 hI';obtain⟨u,hu⟩:=ajl (bA yn xn);rw[hu]at kk2 hI';by_cases c1:yn.length=xn.length+1;have j1:((yn.length:Int)=(xn.length:Int)+1):=amM;rw[if_pos c1]at hI';cases u with
 | true =>
   replace hI':=hid hI';clear hI hym htk hy hyn hu kU c1 hs hR;refine wk ?_;exact amR amM amP ⟨k+1,s+1,rfl,hkl,hid hI'.o,rfl,rfl⟩
 | false =>
   replace hI':=hid hI';clear hI hym htk hy hyn hu kU c1 hs hR;refine wk ?_;exact amR amM amP ⟨k+1,s,rfl,hkl,hid hI'.o,rfl,rfl⟩
 have j1:¬((yn.length:Int)=(xn.length:Int)+1):=amM;rw[if_neg c1]at hI';replace hI':=hid hI';clear hI hym htk hy hyn hu kU c1 hs hR;refine wk ?_;exact amR amM amP ⟨k+1,s,rfl,hkl,hid hI'.o,rfl,rfl⟩;have hke:k=l.length:=amM;subst hke;have g1:¬(l.length:Int)<(l.length:Int):=amM;have hIe:=hI.o;rw[ajL,hR.o]at hIe;have h':=h.o;rw[hIe]at h';replace h':=hid h';clear hI hIe hR kU;refine wk ?_;exact ac h'.o
theorem bO.node{L:List Blk}{iv:Nat}(h:bO L iv mn mi nb bn ck ci rs suf last l)(id:Int):
  (l6 l id=none/\cY (.int .i64 id) (l.map (fG nb bn)) 0=some none)\/∃x n,l6 l id=some x/\x∈l/\x.id=id/\cY (.int .i64 id) (l.map (fG nb bn)) 0=some (some (n,.ptr (nb id) 0))/\L[nb id]?=some (.cells (kk l x)):=by
 rw[xq];unfold l6;rcases eU (f:=λx:aA=>decide (x.id=id)) (l:=l)with⟨h1,h2⟩|⟨n,h1,h2,h3⟩;exact .inl ⟨h2,by rw[h1];rfl⟩;right;have hm:=ak6 h3;have hi:(l.getD n default).id=id:=by have:=ak7 h3;simpa using this
 refine⟨_,n,h3,hm,hi,by rw[h1];simp,?_⟩;have:=h.nd _ hm;rwa[hi]at this
theorem X0{b:List Rdn}(hd:dnB d)(hb:dnB b)(h:K (.bool (gF d b)) L):
  ajp 61 [.sl (d.map ah) d.length cap,.sl (b.map ah) b.length cap'] L K:=by
 have kk1:Hid (Ctr Tryz.prog 62 [.sl (d.map ah) d.length cap,.sl (b.map ah) b.length cap'] (.bool (bA d b))):=@hid _ (by intro L K q;exact OO hd hb q);unfold gF at h;obtain⟨u,hu⟩:=ajl (bA d b);rw[hu]at h kk1;have e:decide (d.length=b.length)=decide ((d.length:Int)=(b.length:Int)):=by simp only[Int.natCast_inj]
 rw[e]at h;replace h:=hid h;clear hu hd hb e;refine ajo Wk ?_;exact ac h.o
theorem adw{r:Rul}(hw:0<=r.who/\r.who<=4){who ent:List Rdn}{cw ce:Option Nat}(h1:dnB who)(h2:dnB ent)(h:K (.bool (abO r who ent)) L):
  ajp 63 [.agg (rlC r),.sl (who.map ah) who.length cw,.sl (ent.map ah) ent.length ce] L K:=by
 have hn:dnB (da r.dn).1:=⟨by have:=(xS r.dn).1;omega,λx hx=>by have:=(xS r.dn).2 x hx;omega⟩;have kk1:Hid (Ctr Tryz.prog 61 [.sl (who.map ah) who.length cw,.sl (ent.map ah) ent.length ce] (.bool (gF who ent))):=@hid _ (λ{L K} q=>X0 h1 h2 q);have kk2:Hid (Ctr Tryz.prog 61 [.sl (who.map ah) who.length cw,.sl ((da r.dn).1.map ah) (da r.dn).1.length none] (.bool (gF who (da r.dn).1))):=@hid _ (λ{L K} q=>X0 h1 hn q);have kk3:Hid (Ctr Tryz.prog 62 [.sl (who.map ah) who.length cw,.sl ((da r.dn).1.map ah) (da r.dn).1.length none] (.bool (bA who (da r.dn).1))):=@hid _ (λ{L K} q=>OO h1 hn q);obtain⟨w,d,wh,at_,rg,al⟩:=r;simp only[rlC,Kj,akd,aj0]at *;obtain⟨s1,e1⟩:=ajl (gF who ent);obtain⟨s2,e2⟩:=ajl (gF who (da d).1);obtain⟨s3,e3⟩:=ajl (bA who (da d).1);obtain⟨P,hP⟩:=ajl ((da d).1);obtain⟨Q,hQ⟩:=ajl ((da wh).1);have e0:decide ((0:Int)<(who.length:Int)) = !decide (who=[]):=by cases who<;>simp<;>omega
 unfold abO at h;rw[e1,e2,e3]at h;rw[e1]at kk1;rw[e2]at kk2;rw[e3]at kk3;rw[hP]at kk2 kk3;rw[hP,hQ];obtain⟨z,hz⟩:=ajl ((!decide (who=[])));rw[hz]at h e0;clear e1 e2 e3 hP hQ hz hn h1 h2;have hc:w=0\/w=1\/w=2\/w=3\/w=4:=amM;clear hw;rcases hc with rfl|rfl|rfl|rfl|rfl
 all_goals
  simp at h;replace h:=hid h;refine ajo JO ?_;exact ab rfl h.o
theorem ae6{A B C:Prop}[Decidable A][Decidable B][Decidable C]:decide (¬A/\(B\/C))=((!decide A)&&(decide B ||decide C)):=by by_cases A<;>by_cases B<;>simp[*]
theorem ag4{adm:List Rdn}{rs:List Rul}{ca:Option Nat}{ib:Nat}{who ent:List Rdn}{cw ce:Option Nat}{n:List UInt8}{right:Int}(hr:Ka right)(hok:∀r∈rs,0<=r.who/\r.who<=4/\1<=r.rg/\r.rg<=15)(hat:∀r∈rs,a8 r.at_)(hn:a8 n)(hl:rs.length<=1100000)(ha:dnB adm)(h1:dnB who)(h2:dnB ent){L:List Blk}(hL:L[ib]?=some (.cells [.sl (adm.map ah) adm.length ca,.sl (iL rs) rs.length c])){K:ajq}(h:K (.bool (YR adm rs who ent n right)) L):
  ajp 26 [.ptr ib 0,.sl (who.map ah) who.length cw,.sl (ent.map ah) ent.length ce,.str n,.int .i64 right] L K:=by
 have kk1:Hid (Ctr Tryz.prog 36 [.sl (who.map ah) who.length cw] (iQ (prS who))):=@hid _ (λ{L K} q=>jm h1.1 h1.2 q);have kk2:Hid (Ctr Tryz.prog 36 [.sl (ent.map ah) ent.length ce] (iQ (prS ent))):=@hid _ (λ{L K} q=>jm h2.1 h2.2 q);have kk3:Hid (Ctr Tryz.prog 61 [.sl (who.map ah) who.length cw,.sl (adm.map ah) adm.length ca] (.bool (gF who adm))):=@hid _ (λ{L K} q=>X0 h1 ha q);obtain⟨⟨p1,e1⟩,hp1⟩:∃q,prS who=q:=⟨_,rfl⟩;obtain⟨⟨p2,e2⟩,hp2⟩:∃q,prS ent=q:=⟨_,rfl⟩;have o1:decide (OkD who)=decide (e1=0):=by rw[ak8];simp[OkD,hp1]
 have o2:decide (OkD ent)=decide (e2=0):=by rw[ak8];simp[OkD,hp2]
 rw[hp1]at kk1;rw[hp2]at kk2;unfold YR at h;rw[o1,o2]at h;simp only[iQ]at kk1 kk2;have e0:decide ((0:Int)<(who.length:Int)) = !decide (who=[]):=by cases who<;>simp<;>omega
 obtain⟨z,hz⟩:=ajl ((!decide (who=[])));obtain⟨s,hs⟩:=ajl (gF who adm);rw[hs]at kk3 h;rw[hz]at e0 h;clear hp1 hp2 o1 o2 hz hs;have hr':decide (((¬right=1/\¬right=2)/\¬right=4)/\¬right=8)=false:=by rcases hr with rfl|rfl|rfl|rfl<;>rfl
 by_cases c1:e1=0/\e2=0;obtain⟨rfl,rfl⟩:=c1;simp only[decide_true,aj7]at h;rcases hb:z&&s with _|_;rw[hb,akE]at h;replace h:=hid h;replace hok:=hid hok;replace hat:=hid hat;replace hr:=hid hr;obtain⟨R,hR⟩:=ajl (YS rs who ent n right);rw[hR]at h;replace hR:=hid hR;have hL':=hid hL;refine ajo jA ?_;refine aq (λm T' L'=>∃(k:Nat) (X:List Blk),m=rs.length-k/\k<=rs.length/\Hid (YS (rs.drop k) who ent n right=R)/\T'=[(69,.int .i64 (k:Int)),(68,.int .i64 rs.length),(67,.sl (iL rs) rs.length c),(0,.ptr ib 0),(1,.sl (who.map ah) who.length cw),(2,.sl (ent.map ah) ent.length ce),(3,.str n),(4,.int .i64 right)]/\L'=L++X) amQ ⟨0,[],rfl,aju _,hR,rfl,amN⟩ ?_;clear hR hL kk1 kk2 kk3 hb hr' e0;rintro _ _ _ ⟨k,X,rfl,hk,hI,rfl,rfl⟩;by_cases hlt:k<rs.length;have g1:(k:Int)<(rs.length:Int):=amM;have g2:=ajn k amM;have e3:=af0 hlt;have e4:k*8+8<=(iL rs).length:=by rw[adK];omega
 obtain⟨r,hrr⟩:=ajl (rs.getD k default);have hm:r∈rs:=by rw[<- hrr];simp[hlt]
 have hdr:rs.drop k=r::rs.drop (k+1):=by rw[ajY hlt,<- hrr];simp[hlt]
 have hI2:=hI.o;rw[hdr,WN]at hI2;rw[hrr]at e3;have hok2:=hok.o r hm;have hbit:=(aeZ hok2.2.2.1 hok2.2.2.2 hr.o).1;have hat2:=hat.o r hm;have hw:dnB (da r.wh).1:=⟨by have:=(xS r.wh).1;omega,λx hx=>by have:=(xS r.wh).2 x hx;omega⟩;have kk1:Hid (Ctr Tryz.prog 46 [.str r.at_] (.str (ag r.at_))):=@hid _ (λ{L K} q=>xZ hat2 q);have kk2:Hid (Ctr Tryz.prog 46 [.str n] (.str (ag n))):=@hid _ (λ{L K} q=>xZ hn q);have kk3:Hid (Ctr Tryz.prog 62 [.sl (ent.map ah) ent.length ce,.sl ((da r.wh).1.map ah) (da r.wh).1.length none] (.bool (bA ent (da r.wh).1))):=@hid _ (λ{L K} q=>OO h2 hw q);have kk4:Hid (Ctr Tryz.prog 63 [.agg (rlC r),.sl (who.map ah) who.length cw,.sl (ent.map ah) ent.length ce] (.bool (abO r who ent))):=@hid _ (λ{L K} q=>adw ⟨hok2.1,hok2.2.1⟩ h1 h2 q);unfold Yn at hI2;obtain⟨f1,hf1⟩:=ajl (ag r.at_);obtain⟨f2,hf2⟩:=ajl (ag n);obtain⟨u,hu⟩:=ajl (bA ent (da r.wh).1);obtain⟨v,hv⟩:=ajl (abO r who ent);obtain⟨bt,hbt⟩:=ajl (aaF r.rg right);rw[hf1,hf2,hu,hv,hbt]at hI2;rw[hf1]at kk1;rw[hf2]at kk2;rw[hu]at kk3;rw[hv]at kk4;rw[hbt]at hbit;clear hf1 hf2 hu hv hbt hdr hI hat2 hok2 hw hm hrr;obtain⟨w,d,wh,at_,rg,al⟩:=r;obtain⟨P,hP⟩:=ajl ((da d).1);obtain⟨Q,hQ⟩:=ajl ((da wh).1);simp only[rlC,Kj,akd,aj0]at e3 kk1 kk2 kk3 kk4 hI2 hbit;rw[hP,hQ]at e3 kk4;rw[hQ]at kk3;clear hP hQ;have ht:(decide (¬IntKind.i64.wrap ((BitVec.ofInt IntKind.i64.bits rg &&& BitVec.ofInt IntKind.i64.bits right).toNat:Int)=0/\(at_=[]\/f1=f2))&&u&&v)=(bt&&(decide (at_=[]) ||decide (f1=f2))&&u&&v):=by rw[ae6];exact congrArg (λb=>(b&&(decide (at_=[]) ||decide (f1=f2)))&&u&&v) hbit
 obtain⟨t,htt⟩:=ajl ((bt&&(decide (at_=[]) ||decide (f1=f2))&&u&&v));rw[htt]at ht hI2;clear hbit htt;replace hI2:=hid hI2;cases t with
 | false =>
   refine wk ?_;exact amR amM amP ⟨k+1,_,rfl,hlt,hid (by simpa using hI2.o),rfl,rfl⟩
 | true =>
   refine wk ?_;exact ab rfl (by have:=hI2.o;rw[if_pos rfl]at this;rw[this];exact h.o)
 have g1:¬(k:Int)<(rs.length:Int):=amM;have hI2:=hI.o;rw[ala amM]at hI2;replace hI2:=hid hI2;clear hI;refine wk ?_;exact ab rfl (by have:=hI2.o;rw[<- this]at h;exact h.o);rw[hb,alf]at h;replace h:=hid h;simp only[ajv]at hb;obtain⟨rfl,rfl⟩:=hb;clear hok hat;refine ajo jA ?_;exact ac h.o;have g:(decide (e1=0)&&decide (e2=0))=false:=by rw[<- alA];exact decide_eq_false c1
 rw[g,akp]at h;replace h:=hid h;have g2:decide (¬e1=0\/¬e2=0)=true:=by simp only[decide_eq_true_eq];omega
 clear g hok hat;refine ajo jA ?_;exact ac h.o
theorem aaV{b:List Rdn}(hd:dnB d)(hb:dnB b){v:Nat}(h:K (.bool (gF d b)) L):
  ajp 123 [.ptr v 0,.sl (d.map ah) d.length cap,.sl (b.map ah) b.length cap'] L K:=by
 have kk1:Hid (Ctr Tryz.prog 62 [.sl (d.map ah) d.length cap,.sl (b.map ah) b.length cap'] (.bool (bA d b))):=@hid _ (by intro L K q;exact OO hd hb q);unfold gF at h;obtain⟨u,hu⟩:=ajl (bA d b);rw[hu]at h kk1;by_cases c:d.length=b.length;have g:(d.length:Int)=(b.length:Int):=amM;rw[decide_eq_true c,aj7]at h;replace h:=hid h;clear hu hd hb c;refine ajo oI ?_;exact ac h.o;have g:¬(d.length:Int)=(b.length:Int):=amM;rw[decide_eq_false c,akp]at h;replace h:=hid h;clear hu hd hb c;refine ajo oI ?_;exact ac h.o
theorem ab0{b:List Rdn}(hd:dnM d)(hb:dnM b)(h:K (.bool (gF d b)) L):
  ajp 129 [.sl (d.map ah) d.length cap,.sl (b.map ah) b.length cap'] L K:=by
 have kk1:Hid (Ctr Tryz.prog 38 [.sl (d.map ah) d.length cap,.sl (b.map ah) b.length cap'] (.bool (bA d b))):=@hid _ (by intro L K q;exact kO hd hb q);unfold gF at h;obtain⟨u,hu⟩:=ajl (bA d b);rw[hu]at h kk1;by_cases c:d.length=b.length;have g:(d.length:Int)=(b.length:Int):=amM;rw[decide_eq_true c,aj7]at h;replace h:=hid h;clear hu hd hb c;refine ajo Fp ?_;exact ac h.o;have g:¬(d.length:Int)=(b.length:Int):=amM;rw[decide_eq_false c,akp]at h;replace h:=hid h;clear hu hd hb c;refine ajo Fp ?_;exact ac h.o
theorem ahu(hd:dnM d){L:List Blk}{K:ajq}(h:¬OkD d->K (.tup [.nilptr,.int .i64 (prS d).2]) L)(h2:d=[]->K (.tup [.nilptr,.int .i64 2]) L)(h3:OkD d->d≠[]->K (.tup [.ptr L.length 0,.int .i64 0]) (L++[.cells [dnA d,.sl [] 0 (some 0),.int .i64 0]])):
  ajp 32 [.sl (d.map ah) d.length cap] L K:=by
 obtain⟨⟨s,e⟩,hse⟩:∃q,prS d=q:=⟨_,rfl⟩;have kk1:Hid (Ctr Tryz.prog 37 [.sl (d.map ah) d.length cap] (.tup [.str s,.int .i64 e])):=@hid _ (by intro L K q;exact gO hd.1 hd.2 (by rw[hse];exact q));have kk2:Hid (Ctr Tryz.prog 40 [.sl (d.map ah) d.length cap] (dnA d)):=@hid _ (by intro L K q;exact Yl hd.b.1 hd.b.2 q);have p1:OkD d↔e=0:=by unfold OkD;rw[hse]
 rw[hse]at h;by_cases he:e=0;rotate_left;replace h:=hid (h λc=>he (p1.1 c));clear hse p1 h2 h3 hd;refine ajo qj ?_;exact ac h.o;subst he;by_cases hl:d.length=0;have hnil:=aj4.1 hl;replace h:=hid (h2 hnil);subst hnil;clear hse p1 h2 h3 hd hl;refine ajo qj ?_;exact ac h.o;have g:¬(d.length:Int)=0:=amM;replace h:=hid (h3 (p1.2 rfl) λc=>hl (by rw[c];rfl));clear hse p1 h2 h3 hd;refine ajo qj ?_;exact ac h.o
theorem afD(hd:dnB d){L:List Blk}{K:ajq}(h:¬OkD d->K (.tup [.nilptr,.int .i64 (prS d).2]) L)(h2:d=[]->K (.tup [.nilptr,.int .i64 2]) L)(h3:OkD d->d≠[]->K (.tup [.ptr (L.length+3) 0,.int .i64 0]) (L++[.map [] 0,.map [] 0,.cells [dnA d,.lmap L.length,.lmap (L.length+1),.int .i64 0],.cells [.ptr (L.length+2) 0]])):
  ajp 30 [.sl (d.map ah) d.length cap] L K:=by
 obtain⟨⟨s,e⟩,hse⟩:∃q,prS d=q:=⟨_,rfl⟩;have kk1:Hid (Ctr Tryz.prog 36 [.sl (d.map ah) d.length cap] (.tup [.str s,.int .i64 e])):=@hid _ (by intro L K q;exact jm hd.1 hd.2 (by rw[hse];exact q));have kk2:Hid (∀{c:Option Nat}{L:List Blk}{K:ajq},K (dnA d) L->ajp 59 [.sl (d.map ah) d.length cap,.sl [] 0 c] L K):=@hid _ (by intro c L K q;exact XE hd.1 hd.2 q);have p1:OkD d↔e=0:=by unfold OkD;rw[hse]
 rw[hse]at h;by_cases he:e=0;rotate_left;replace h:=hid (h λc=>he (p1.1 c));clear hse p1 h2 h3 hd;refine ajo th ?_;exact ac h.o;subst he;by_cases hl:d.length=0;have hnil:=aj4.1 hl;replace h:=hid (h2 hnil);subst hnil;clear hse p1 h2 h3 hd hl;refine ajo th ?_;exact ac h.o;have g:¬(d.length:Int)=0:=amM;replace h:=hid (h3 (p1.2 rfl) λc=>hl (by rw[c];rfl));clear hse p1 h2 h3 hd;refine ajo th ?_;exact ac h.o
theorem Xw{b:List Rdn}(hd:d.length<=1100000)(hb:b.length<=1100000)(hk:k<=d.length)(h:K (dnA (gm d k b)) L):
  ajp 83 [.sl (d.map ah) d.length cap,.int .i64 (k:Int),.sl (b.map ah) b.length cap'] L K:=by
 obtain⟨j,hj⟩:=ajl (d.length-k);have g1:IntKind.i64.wrap ((d.length:Int)-(k:Int))=(j:Int):=by rw[ae amM amM];omega
 have g2:(j:Int)<=(d.length:Int):=amM;have l1:(List.take j (d.map ah)).length=j:=by simp;omega
 have l2:AV.frzL (List.take j (d.map ah))=(d.take j).map ah:=by rw[<- amd,aY]
 have l3:AV.frzL (b.map ah)=b.map ah:=aY b;have l4:(b.map ah).all AV.one=true:=by rw[ajE];intro a ha;obtain⟨r,_,rfl⟩:=ajy.1 ha;rfl
 have e:dnA (gm d k b)=.sl ((d.take j).map ah++b.map ah) (j+b.length) none:=by unfold dnA gm;rw[hj,ajV,ajA,akH,Nat.min_eq_left amM]
 rw[e]at h;have lj:j<=1100000:=amM;replace h:=hid h;clear e hj;refine ajo RQ ?_;refine aJ ?_;simp only[AV.frz,<- ajV,aY];have h':=h.o;rw[<- ajV]at h';exact ab (by simp only[AV.refs,dX]) h'
end Go.Proofs.YtdnfjhflkkpokaaGreatDoor.Av
