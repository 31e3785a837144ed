/- Joined texts of the walk, made small by a program. -/
import Derived.Test.YtdnfjhflkkpokaaGreatDoorKk4
import Derived.Test.YtdnfjhflkkpokaaGreatDoorRows
import Derived.KernelRfl
import Derived.Test.YtdnfjhflkkpokaaGreatDoorKk5
import Derived.Laws.RangeAny
import Derived.Laws.RangeString
import Derived.Shelf.Strings.Builder1
import Derived.Shelf.Strings.Builder2
import Derived.Shelf.Strings.OnBuilder
import Derived.Shelf.Small.Bits
import Derived.Shelf.Small.Strs
import Derived.Shelf.Strconv.Itoa0
import Derived.Shelf.Strconv.Itoa1
import Derived.Shelf.LaysM
import Derived.Shelf.Strconv.Itoa2
import Derived.Shelf.Strconv.Itoa3
import Derived.Shelf.Strconv.Itoa4
import Derived.Shelf.Strconv.ParseIntEmpty
import Derived.Shelf.Strconv.Clone
import Derived.Shelf.Strconv.SyntaxError
import Derived.Shelf.LaysC
import Derived.Shelf.Strconv.ToError
import Derived.Shelf.Strconv.Lower
import Derived.Shelf.Strconv.ParseUint10
import Derived.Shelf.Strconv.ParseUint10Empty
import Derived.Shelf.Strconv.ParseUint10Any
import Derived.Shelf.Strconv.ParseInt10
import Derived.Shelf.Strconv.RangeError
import Derived.Shelf.Strconv.ToErrorRange
import Derived.Shelf.Strconv.ParseUintEmpty
import Derived.Shelf.Strconv.ParseUint10b64
import Derived.Shelf.Strconv.ParseUint10b32
import Derived.Shelf.Strconv.ParseUint10b16
import Derived.Shelf.Strconv.ParseUint10b8
import Derived.Shelf.Strconv.ParseUint10At
import Derived.Shelf.Strconv.ParseInt10At64
import Derived.Shelf.Strconv.ParseInt10At32
import Derived.Shelf.Strconv.ParseInt10At16
import Derived.Shelf.Strconv.ParseInt10At8
import Derived.Shelf.Strconv.ParseInt10All
import Derived.Shelf.Strconv.ParseIntPublic10
import Derived.Shelf.Strconv.ErrVarParseInt
import Derived.Shelf.Strings.Search1
import Derived.Shelf.Strings.Search2
import Derived.Shelf.Strings.Search3
import Derived.Shelf.Strings.Cut
import Derived.Shelf.Strings.Shaped
import Derived.Shelf.Sort.Plain
import Derived.Shelf.GgClosure.StringsIndexFunc
import Derived.Ground.GgwProg
import Derived.Shelf.GgClosure.StringsIndexFuncTop
import Derived.Shelf.GgClosure.StringsRunes
import Derived.Shelf.Strings.Prefix
import Derived.Shelf.Slices.Equal
import Derived.Ground.Names2Prog
import Derived.Shelf.Slices.Clone
import Derived.Shelf.Slices.In.SortNone
import Derived.Ground.SlsfProg
import Derived.Shelf.SlSortCmp.Insertion
import Derived.Shelf.SlSortCmp.SiftDown1
import Derived.Shelf.SlSortCmp.HeapSort1
import Derived.Shelf.SlSortCmp.Insertion1
import Derived.Shelf.SlSortCmp.Median1
import Derived.Shelf.SlSortCmp.Pivot1
import Derived.Shelf.SlSortCmp.ReverseRange1
import Derived.Shelf.SlSortCmp.PartialInsertion1
import Derived.Shelf.SlSortCmp.PartitionEqual1
import Derived.Shelf.SlSortCmp.Partition1
import Derived.Shelf.SlSortCmp.Pdq1
import Derived.Shelf.SlSortCmp.Whole1
import Derived.Test.YtdnfjhflkkpokaaGreatDoorProg
import Derived.Sort.Walk0
set_option linter.unusedSimpArgs false
set_option linter.unusedVariables false
set_option maxRecDepth 100000
namespace Go.Proofs.YtdnfjhflkkpokaaGreatDoor.Av
open Go
variable {s typ b:List UInt8}{ip:Nat}{cap:Option Nat}{bl:Bool}{d:UInt8}
def Sr:LSO:=[Aj 2]
def Sq:LSO:=[Aa 5 0,BX 6 5,Aa 7 6,.grp none 7 false
 [Ag 8 7 0,B1 9 7 8,AF 10 7 9 32]
 11 (tm 10),Aa 12 11,.grp none 12 false
 [Ag 13 12 0,og 14 12 false (.idxS (tm 13) (iv 0)),og 15 12 false (.conv .i32 (tm 14)),AH 16 12 174 15,Bq 17 12 16]
 18 (tm 17)]
def Sp:LSO:=[Aj 2]
def So:LSO:=[Aa 19 0,o1 20 (.rangeS (tm 19))]
def Sn:LSO:=[o1 21 (.nextS (tm 20)),Ap 22 21]
def Sm:LSO:=[Br 23 21,Aa 4 23]
def Sl:LSO:=[Aa 24 4,Ai 25 174 24,A7 26 25,Aa 27 26,.grp none 27 true
 [Ae 28 27 4,og 29 27 true (.bin .lss (tm 28) (.av (.int .i32 48))),Ae 30 27 29,.grp (some (27,true)) 30 false
 [Ag 31 30 4,og 32 30 false (.bin .gtr (tm 31) (.av (.int .i32 57)))]
 33 (tm 32)]
 34 (tm 33),Aa 35 34,.grp none 35 true
 [Ae 36 35 4,og 37 35 true (.bin .neq (tm 36) (.av (.int .i32 45)))]
 38 (tm 37)]
def Sk:LSO:=[Aj 2]
def Sj:LSO:=[A6 2]
def R1:aQ:=⟨39,(amF Sr [] (.seq (amF Sq Cq (amH 18 (.sreg Sp []))) (.seq (amF So Cl (amI 0 (amF Sn [] (.seq (amJ 22 0) (.block 1 (amF Sm Cl (amF Sl Cr (amH 38 (.sreg Sk []))))))))) (amF Sj [] .ret)))),[(.tmp 2)]⟩
attribute [push_cast] Sr Sq Sp So Sn Sm Sl Sk Sj
theorem XX:amK 120=amL R1:=amO
def Nh:LSO:=[Aj 2]
def Ng:LSO:=[Aa 3 0,o1 4 (.bin .geq (tm 3) (.av (.int .i32 97))),Aa 5 4,.grp none 5 true
 [Ae 6 5 0,og 7 5 true (.bin .leq (tm 6) (.av (.int .i32 122)))]
 8 (tm 7),Aa 9 8,.grp none 9 false
 [Ag 10 9 0,og 11 9 false (.bin .geq (tm 10) (.av (.int .i32 65))),Ag 12 9 11,.grp (some (9,false)) 12 true
 [Ae 13 12 0,og 14 12 true (.bin .leq (tm 13) (.av (.int .i32 90)))]
 15 (tm 14)]
 16 (tm 15),Aa 2 16]
def JN:aQ:=⟨17,(amF Nh [] (amF Ng Cr .ret)),[(.tmp 2)]⟩
attribute [push_cast] Nh Ng
theorem VK:amK 174=amL JN:=amO
def Uz:LSO:=[A5 3 1,Aj 4]
def Uy:LSO:=[Aa 5 0,o1 6 (.mkfn 176 [(tm 3)]),Au 7 175 5 6,Aa 4 7]
def VL:aQ:=⟨8,(amF Uz [] (amF Uy Cp .ret)),[(.tmp 4)]⟩
attribute [push_cast] Uz Uy
theorem Zo:amK 121=amL VL:=amO
def PZ:LSO:=[A5 2 0,Aj 3]
def PY:LSO:=[Ac 4 0 2,Ab 5 1 4,Ai 6 46 5,Ab 7 1 1,Ai 8 46 7,AD 9 6 8,Aa 3 9]
def OB:aQ:=⟨10,(amF PZ [] (.seq (.sdreg PY [.pure,(.read 0 0),(.read 0 0),(.read 0 0)] Cr) .ret)),[(.tmp 3)]⟩
attribute [push_cast] PZ PY
theorem Wg:amK 176=amL OB:=amO
def PP:LSO:=[Aw 2,Aw 3,Aj 4]
def PO:LSO:=[Ak 5]
def PN:LSO:=[Aj 6]
def PM:LSO:=[Ad 7 0]
def PL:LSO:=[Aa 11 7,Aa 12 0,Ax 13 12,Al 14 11 13,Aa 15 14,.grp none 15 true
 [Ae 16 15 0,Ae 17 15 7,Bi 18 15 16 17,og 19 15 true (.bin .neq (tm 18) (.av (.int .u8 44)))]
 20 (tm 19),Aa 21 20,.grp none 21 true
 [Ae 22 21 0,Ae 23 21 7,Bi 24 21 22 23,og 25 21 true (.bin .neq (tm 24) (.av (.int .u8 43)))]
 26 (tm 25)]
def PK:LSO:=[Aa 27 0,Aa 28 7,AK 29 27 28,Aa 8 29]
def PJ:LSO:=[Aa 30 8,o1 31 (.bin .eql (tm 30) (.av (.int .u8 32))),Aa 6 31]
def PI:LSO:=[Aa 33 8,o1 34 (.bin .neq (tm 33) (.av (.int .u8 92))),Aa 32 34]
def PH:LSO:=[Aa 35 8,BL 36 35,Aa 37 36,.grp none 37 false
 [Ag 38 37 8,og 39 37 false (.call 177 [(.av (.str [34,59,60,62])),(tm 38)]),BM 40 37 39 0]
 41 (tm 40),Aa 42 41,.grp none 42 false
 [Ag 43 42 5,AM 44 42 43,AO 45 42 44 0,Ag 46 42 45,.grp (some (42,false)) 46 true
 [Ae 47 46 8,B3 48 46 47,Ae 49 46 48,.grp (some (46,true)) 49 false
 [Ag 50 49 8,og 51 49 false (.bin .eql (tm 50) (.av (.int .u8 35)))]
 52 (tm 51)]
 53 (tm 52)]
 54 (tm 53)]
def PG:LSO:=[Aw 2,Aw 3,Aj 4]
def Nb:LSO:=[Aa 56 7,Ah 57 56 1,Aa 58 0,Ax 59 58,Al 60 57 59,Aa 61 60,.grp none 61 true
 [Ae 62 61 0,Ae 63 61 7,BV 64 61 63 1,Bi 65 61 62 64,og 66 61 true (.call 177 [(.av (.str [34,43,44,59,60,62,92,32,35,61])),(tm 65)]),og 67 61 true (.bin .geq (tm 66) (iv 0))]
 68 (tm 67),Aa 55 68]
def Na:LSO:=[Aa 69 7,Ah 70 69 1,Aa 7 70]
def M9:LSO:=[Aa 71 0,Aa 72 7,AK 73 71 72,Aa 8 73]
def M8:LSO:=[Aa 75 7,Ah 76 75 2,Aa 77 0,Ax 78 77,Al 79 76 78,Aa 74 79]
def M7:LSO:=[Aa 81 0,Aa 82 7,Ah 83 82 1,Aa 84 7,Ah 85 84 3,BY 86 81 83 85,Ai 87 178 86,Aa 80 87,Ap 88 80,Aq 89 80,Aa 9 88,Aa 10 89]
def M6:LSO:=[Aa 90 10,A7 91 90]
def M5:LSO:=[Aw 2,Aw 3,Aj 4]
def M4:LSO:=[Aa 92 9,BN 93 92 0,Aa 8 93]
def M3:LSO:=[Aa 94 7,Ah 95 94 2,Aa 7 95]
def M2:LSO:=[Aw 2,Aw 3,Aj 4]
def M1:LSO:=[Aa 96 5,Aa 97 8,AZ 98 97,AU 99 96 98,Aa 5 99]
def M0:LSO:=[Aa 100 7,Ah 101 100 1,Aa 7 101]
def MZ:LSO:=[Aa 102 5,Be 103 102,Aa 104 0,Aa 105 7,BZ 106 104 105,Aa 107 6,A7 108 107,Aa 2 103,Aa 3 106,Aa 4 108]
def OA:aQ:=⟨109,(amF PP [] (amF PO [] (amF PN [] (amF PM [] (.seq (amI 0 (.seq (amF PL Ct (amJ 26 0)) (.block 1 (amF PK Cp (amF PJ Cm (.seq (.block 2 (amF PI Cm (amG 32 (amF PH Cq (amH 54 (.sreg PG []))) (amF Nb Ct (amG 55 (amF Na Cm (.sreg M9 Cp)) (amF M8 Cq (amG 74 (amF M7 CC (.seq (amF M6 Cl (amH 91 (.sreg M5 []))) (amF M4 Cm (.sreg M3 Cm)))) (amF M2 [] .ret)))))))) (amF M1 Co (.sreg M0 Cm)))))))) (.seq (.sdreg MZ [.pure,(.read 0 0),.pure,.pure,(.read 0 0),.pure,.pure,.pure,.pure] [true,true,true,false,false,false,false,false,false,false]) .ret)))))),[(.tmp 2),(.tmp 3),(.tmp 4)]⟩
attribute [push_cast] PP PO PN PM PL PK PJ PI PH PG Nb Na M9 M8 M7 M6 M5 M4 M3 M2 M1 M0 MZ
theorem Wf:amK 122=amL OA:=amO
def Qz:LSO:=[Ak 2,Ad 3 0]
def Qy:LSO:=[Aa 10 0,Ax 11 10,A9 12 11 4096]
def Qx:LSO:=[Ak 2,Ad 3 5]
def Qw:LSO:=[Aa 13 0,BX 14 13]
def Qv:LSO:=[Ak 2,Ad 3 0]
def Qu:LSO:=[Ak 4]
def Qt:LSO:=[Ak 5]
def Qs:LSO:=[Aa 15 4,Af 16 15,Ao 17 16 32,Aa 18 17,.grp none 18 false
 [Ag 19 18 5,AM 20 18 19,AO 21 18 20 8]
 22 (tm 21)]
def Qr:LSO:=[Ak 2,Ad 3 9]
def Qq:LSO:=[Aa 24 0,o1 25 (.call 119 [(tm 24),(.av (.str [61]))]),Aa 23 25,Ap 26 23,Aq 27 23,Br 28 23,Aa 6 26,Aa 7 27,Aa 8 28]
def NR:LSO:=[Aa 29 8,A7 30 29,Aa 31 30,.grp none 31 false
 [Ag 32 31 6,AH 33 31 120 32,Bq 34 31 33]
 35 (tm 34)]
def NQ:LSO:=[Ak 2,Ad 3 4]
def NP:LSO:=[Aa 36 5,Aa 37 6,Au 38 121 36 37]
def NO:LSO:=[Ak 2,Ad 3 21]
def NN:LSO:=[Aa 40 7,Ai 41 122 40,Aa 39 41,Ap 42 39,Aq 43 39,Br 44 39,Aa 9 42,Aa 7 43,Aa 8 44]
def NM:LSO:=[Aa 45 8,A7 46 45]
def NL:LSO:=[Ak 2,Ad 3 4]
def NJ:LSO:=[Aa 47 5,Aa 48 6,Aa 49 9,o1 50 (.build [(.str []),(.str [])] [(0,(1,(tm 48))),(1,(1,(tm 49)))]),BC 51 50,BD 52 47 51,Aa 5 52]
def NI:LSO:=[Aa 53 7,BX 54 53]
def NH:LSO:=[Aa 55 4,Aa 56 5,Bf 57 56,Bd 58 55 57,Aa 2 58,Ad 3 0]
def NG:LSO:=[Aa 59 7,BN 60 59 0,o1 61 (.bin .eql (tm 60) (.av (.int .u8 44)))]
def NF:LSO:=[Aa 62 4,Aa 63 5,Bf 64 63,Bd 65 62 64,Aa 4 65,Ak 5]
def NE:LSO:=[Aa 66 7,o1 67 (.slS (tm 66) (some (iv 1)) none),Aa 0 67]
def OE:aQ:=⟨68,(amF Qz [] (.seq (amF Qy Cm (amH 12 (.sreg Qx []))) (.seq (amF Qw Cl (amH 14 (.sreg Qv []))) (amF Qu [] (amF Qt [] (amI 0 (.block 1 (.seq (amF Qs Co (amH 22 (.sreg Qr []))) (amF Qq CI (.seq (amF NR Cp (amH 35 (.sreg NQ []))) (.seq (amF NP Cm (amH 38 (.sreg NO []))) (amF NN CI (.seq (amF NM Cl (amH 46 (.sreg NL []))) (amF NJ Cr (.seq (amF NI Cl (amH 54 (.sreg NH C3))) (.seq (amF NG Cm (amG 61 (.sreg NF C3) .skip)) (.sreg NE Cm))))))))))))))))),[(.tmp 2),(.tmp 3)]⟩
attribute [push_cast] Qz Qy Qx Qw Qv Qu Qt Qs Qr Qq NR NQ NP NO NN NM NL NJ NI NH NG NF NE
theorem Wj:amK 77=amL OE:=amO
def Jl:LSO:=[Aw 2]
def Jk:LSO:=[Ak 3]
def Jj:LSO:=[Aa 7 0,o1 8 (.s2b (tm 7)),Af 9 8,Ad 10 0]
def Ji:LSO:=[Al 11 10 9]
def Jh:LSO:=[Aa 12 10,Am 13 1 8 10,Ab 14 1 13,Aa 4 12,Aa 5 14]
def Jg:LSO:=[Aa 15 4,Ao 16 15 0,Aa 17 16,.grp none 17 true
 [Ae 18 17 5,B3 19 17 18,Ae 20 17 19,.grp (some (17,true)) 20 false
 [Ag 21 20 5,og 22 20 false (.bin .eql (tm 21) (.av (.int .u8 35)))]
 23 (tm 22)]
 24 (tm 23),Aa 25 24,.grp none 25 false
 [Ag 26 25 4,Ag 27 25 0,B1 28 25 27,Ca 29 25 28 1,Bp 30 25 26 29,Ag 31 25 30,.grp (some (25,false)) 31 true
 [Ae 32 31 5,B3 33 31 32]
 34 (tm 33)]
 35 (tm 34),Aa 6 35]
def Jf:LSO:=[Aa 37 5,BL 38 37,Aa 36 38]
def Je:LSO:=[Aa 39 3,o1 40 (.app 1 1 1 [(.int .u8 0)] (tm 39) (.av (.str [92,48,48]))),Aa 3 40]
def Jd:LSO:=[Aa 42 6,Aa 43 42,.grp none 43 false
 [Ag 44 43 5,og 45 43 false (.call 177 [(.av (.str [34,43,44,59,60,62,92])),(tm 44)]),BM 46 43 45 0]
 47 (tm 46),Aa 41 47]
def Jc:LSO:=[Aa 48 3,o1 49 (.bslice false 1 1 [(.int .u8 0)] [(0,(1,(.av (.int .u8 92))))]),AU 50 48 49,Aa 3 50]
def Fh:LSO:=[Aa 51 3,Aa 52 5,AZ 53 52,AU 54 51 53,Aa 3 54]
def Fg:LSO:=[Ah 55 10 1,Aa 10 55]
def Ff:LSO:=[Aa 56 3,Be 57 56,Aa 2 57]
def yz:aQ:=⟨58,(amF Jl [] (amF Jk [] (.seq (amF Jj C0 (amI 0 (amF Ji [] (.seq (amJ 11 0) (.seq (.block 1 (amF Jh Cv (amF Jg Cr (.seq (.block 2 (amF Jf Cm (amG 36 (amF Je Cm (.exit 1)) (amF Jd Cp (amG 41 (.sreg Jc Cp) .skip))))) (.sreg Fh Co))))) (.sreg Fg Cl)))))) (amF Ff Cm .ret)))),[(.tmp 2)]⟩
attribute [push_cast] Jl Jk Jj Ji Jh Jg Jf Je Jd Jc Fh Fg Ff
theorem TN:amK 131=amL yz:=amO
def P9:LSO:=[Ad 2 0]
def P8:LSO:=[Aa 7 0,Af 8 7,Ad 9 0]
def P7:LSO:=[Al 10 9 8]
def P6:LSO:=[Aa 11 9,Am 12 1 7 9,Ab 13 1 12,Aa 3 11,Aa 4 13]
def P5:LSO:=[Aa 15 3,Ao 16 15 32,Aa 14 16]
def P4:LSO:=[Ad 2 9]
def P3:LSO:=[Aa 18 4,Af 19 18,Ao 20 19 0,Aa 17 20]
def P2:LSO:=[Ad 2 2]
def P1:LSO:=[Aa 21 4,Af 22 21,Ad 23 0]
def P0:LSO:=[Al 24 23 22]
def Nr:LSO:=[Aa 25 23,Am 26 2 21 23,Ar 27 2 26,Bj 6,Aa 5 25,An 2 6 27]
def Nq:LSO:=[Aa 29 5,Ao 30 29 8,Aa 28 30]
def Np:LSO:=[Ad 2 9]
def No:LSO:=[Ac 32 0 6,Ab 33 1 32,Ai 34 120 33,A7 35 34,Aa 31 35]
def Nn:LSO:=[Ad 2 20]
def Nm:LSO:=[Aa 37 4,Aa 38 5,Cb 39 37 38,Ac 40 0 6,Ab 41 1 40,Au 42 121 39 41,Aa 36 42]
def Nl:LSO:=[Ad 2 21]
def Nk:LSO:=[Ah 43 23 1,Aa 23 43]
def Nj:LSO:=[Ah 44 9 1,Aa 9 44]
def Ni:LSO:=[Ad 2 0]
def OC:aQ:=⟨45,(amF P9 [] (.seq (amF P8 [] (amI 0 (amF P7 [] (.seq (amJ 10 0) (.seq (.block 1 (amF P6 Cv (.seq (.block 2 (amF P5 Cm (amG 14 (amF P4 [] .ret) (amF P3 Cp (amH 17 (.sreg P2 [])))))) (amF P1 [] (amI 3 (amF P0 [] (.seq (amJ 24 3) (.seq (.block 4 (amF Nr Cv (.block 5 (amF Nq Cm (amG 28 (amF Np [] .ret) (amF No Co (amG 31 (amF Nn [] .ret) (.seq (.sdreg Nm [.pure,.pure,(.read 0 0),.pure,(.read 0 0)] Cr) (amH 36 (.sreg Nl [])))))))))) (.sreg Nk Cl))))))))) (.sreg Nj Cl)))))) (amF Ni [] .ret))),[(.tmp 2)]⟩
attribute [push_cast] P9 P8 P7 P6 P5 P4 P3 P2 P1 P0 Nr Nq Np No Nn Nm Nl Nk Nj Ni
theorem Wh:amK 84=amL OC:=amO
def Qp:LSO:=[Aw 2,Ad 3 0]
def Qo:LSO:=[Aa 11 0,Ai 12 84 11,Aa 4 12]
def Qn:LSO:=[Aa 13 4,A8 14 13 0]
def Qm:LSO:=[Aa 15 4,Aw 2,Aa 3 15]
def Ql:LSO:=[Ad 5 0]
def Qk:LSO:=[Aa 16 0,Af 17 16,Ad 18 0]
def Qj:LSO:=[Al 19 18 17]
def Qi:LSO:=[Am 20 1 16 18,Ab 21 1 20,Aa 7 21]
def Qh:LSO:=[Aa 22 7,Af 23 22,Ad 24 0]
def Qg:LSO:=[Al 25 24 23]
def ND:LSO:=[Am 26 2 22 24,Ar 27 2 26,Bj 9,An 2 9 27]
def NC:LSO:=[Ac 28 1 9,Ab 29 1 28,Ax 30 29,A9 31 30 4096]
def NB:LSO:=[Aw 2,Ad 3 5]
def NA:LSO:=[Aa 32 5,Ah 33 32 1,Aa 5 33]
def Nz:LSO:=[Ah 34 24 1,Aa 24 34]
def Ny:LSO:=[Ah 35 18 1,Aa 18 35]
def Nw:LSO:=[Aa 36 0,o1 37 (.call 85 [(tm 36),(.av (.bool false))]),Aa 10 37]
def Nv:LSO:=[Aa 38 10,Ax 39 38,A9 40 39 4096]
def Nu:LSO:=[Aw 2,Ad 3 5]
def Nt:LSO:=[Aa 41 10,Aa 2 41,Ad 3 0]
def OD:aQ:=⟨42,(amF Qp [] (.seq (amF Qo Cm (amF Qn Cl (amH 14 (.sreg Qm Cs)))) (amF Ql [] (.seq (amF Qk [] (amI 0 (amF Qj [] (.seq (amJ 19 0) (.seq (.block 1 (amF Qi Cm (amF Qh [] (amI 2 (amF Qg [] (.seq (amJ 25 2) (.seq (.block 3 (amF ND Cm (.seq (amF NC Cp (amH 31 (.sreg NB []))) (.sreg NA Cm)))) (.sreg Nz Cl)))))))) (.sreg Ny Cl)))))) (amF Nw Cm (.seq (amF Nv Cm (amH 40 (.sreg Nu []))) (amF Nt Cs .ret))))))),[(.tmp 2),(.tmp 3)]⟩
attribute [push_cast] Qp Qo Qn Qm Ql Qk Qj Qi Qh Qg ND NC NB NA Nz Ny Nw Nv Nu Nt
theorem Wi:amK 36=amL OD:=amO
def Sx:LSO:=[Aw 2,Ad 3 0]
def Sw:LSO:=[Aa 7 0,Ai 8 36 7,Aa 6 8,Ap 9 6,Aq 10 6,Aa 4 9,Aa 5 10]
def Sv:LSO:=[Aa 11 5,A8 12 11 0]
def Su:LSO:=[Aa 13 5,Aw 2,Aa 3 13]
def Ss:LSO:=[Aa 14 0,o1 15 (.call 85 [(tm 14),(.av (.bool true))]),Aa 2 15,Ad 3 0]
def R2:aQ:=⟨16,(amF Sx [] (.seq (amF Sw Cr (amF Sv Cl (amH 12 (.sreg Su Cs)))) (amF Ss Cx .ret))),[(.tmp 2),(.tmp 3)]⟩
attribute [push_cast] Sx Sw Sv Su Ss
theorem XY:amK 58=amL R2:=amO
def df:LSO:=[Aj 4]
def de:LSO:=[Aa 5 0,Aa 6 1,Au 7 204 5 6,AJ 8 7 0,Aa 4 8]
def cz:aQ:=⟨9,(amF df [] (amF de Co .ret)),[(.tmp 4)]⟩
attribute [push_cast] df de
theorem gC:amK 175=amL cz:=amO
def dH:LSO:=[Ad 4 0]
def dG:LSO:=[Aa 6 0,Af 7 6,Ad 8 0]
def dF:LSO:=[Al 9 8 7]
def dE:LSO:=[Aa 10 8,Aa 5 10]
def dD:LSO:=[Aa 11 1,Aa 12 0,Aa 13 5,Am 14 2 12 13,Ar 15 2 14,BK 16 11 15]
def dC:LSO:=[Aa 17 5,Aa 4 17]
def dB:LSO:=[Ah 18 8 1,Aa 8 18]
def dA:LSO:=[Ad 4 (-1)]
def cN:aQ:=⟨19,(amF dH [] (.seq (amF dG Cs (amI 0 (amF dF [] (.seq (amJ 9 0) (.seq (.block 1 (amF dE Cl (amF dD Cq (amH 16 (.sreg dC Cl))))) (.sreg dB Cl)))))) (amF dA [] .ret))),[(.tmp 4)]⟩
attribute [push_cast] dH dG dF dE dD dC dB dA
theorem gU:amK 204=amL cN:=amO
def yE:LSO:=[Aw 4,Aw 5,Aj 6]
def yD:LSO:=[Aa 7 0,Aa 8 1,Au 9 173 7 8,Ap 10 9,Aq 11 9,Br 12 9,Aa 4 10,Aa 5 11,Aa 6 12]
def im:aQ:=⟨13,(amF yE [] (amF yD CI .ret)),[(.tmp 4),(.tmp 5),(.tmp 6)]⟩
attribute [push_cast] yE yD
theorem xG:amK 119=amL im:=amO
def gl:LSO:=[Aw 4,Aw 5,Aj 6]
def gk:LSO:=[Aa 8 0,Aa 9 1,Au 10 168 8 9,Aa 7 10]
def gj:LSO:=[Aa 11 7,AJ 12 11 0]
def gi:LSO:=[Aa 13 0,Aa 14 7,o1 15 (.slS (tm 13) none (some (tm 14))),Aa 16 0,Aa 17 7,Aa 18 1,Ax 19 18,Bo 20 17 19,BZ 21 16 20,Aa 4 15,Aa 5 21,A6 6]
def gh:LSO:=[Aa 22 0,Aa 4 22,Aw 5,Aj 6]
def cj:aQ:=⟨23,(amF gl [] (.seq (amF gk Cp (amF gj Cl (amH 12 (.sdreg gi [.pure,.pure,(.read 0 0),.pure,.pure,.pure,(.read 0 0),.pure,(.read 0 0),.pure] CN)))) (amF gh C0 .ret))),[(.tmp 4),(.tmp 5),(.tmp 6)]⟩
attribute [push_cast] gl gk gj gi gh
theorem fR:amK 173=amL cj:=amO
attribute [push_cast] JN VL OA yz OC OD R2 cz cN im
set_option maxHeartbeats 8000000
set_option maxRecDepth 100000
theorem ZG{n:Int}(h0 : -2147483648<=n)(h1:n<2147483648):IntKind.i32.wrap n=n:=by simp only[IntKind.wrap,IntKind.bits,IntKind.signed];simp;omega
theorem aaC{p:Nat}(h:p<s.length)(ha:(s.getD p 0).toNat<128):Vn s p=((s.getD p 0).toNat,1):=by
 have e:s.getD p 0=s[p]:=by simp[h]
 rw[e]at ha⊢;exact decode_ascii ⟨⟨s⟩⟩ p h ha
theorem acJ{p:Nat}(h:p<s.length)(ha:128<=(s.getD p 0).toNat):128<=(Vn s p).1:=by
 have e:s.getD p 0=s[p]:=by simp[h]
 rw[e]at ha;exact(decode_high ⟨⟨s⟩⟩ p h ha).1
def l5(x:Int):Bool:=(decide (97<=x)&&decide (x<=122)) ||(decide (65<=x)&&decide (x<=90))
theorem lY{x:Int}{L:List Blk}{K:ajq}(h:K (.bool (l5 x)) L):ajp 174 [.int .i32 x] L K:=by
 refine ajo VK ?_
 all_goals (first|refine ab rfl (Kto h ?_)|refine ac (Kto h ?_)|refine ab (by simp only[AV.refs,AV.refsL, *];rfl) (Kto h ?_)|refine aJ (ab rfl (Kto h ?_))|(trace_state;fail))
 all_goals (first|(simp[l5, *];done)|(simp[l5, *];omega)|(simp[l5, *];intros;omega)|(simp_all[Hid,l5];done)|(simp_all[Hid,l5];omega))
def OQ(x:Int):Bool:=l5 x ||(decide (48<=x)&&decide (x<=57)) ||decide (x=45)
def ix(s:List UInt8):Bool:=decide (1<=s.length)&&decide (s.length<=32)&&l5 ((s.getD 0 0).toNat:Int)&&s.all λc=>OQ (c.toNat:Int)
theorem Ww{x:Int}(h:128<=x):OQ x=false:=by simp only[OQ,l5,alC,al7,decide_eq_false_iff_not];omega
theorem ZN{s:List UInt8}{L:List Blk}{K:ajq}(h:K (.bool (ix s)) L):ajp 120 [.str s] L K:=by
 have no:ix s=false->K (.bool false) L:=λe=>by rw[<- e];exact h
 replace no:=hid no;replace h:=hid h;refine aa XX (by simp[R1]) ?_;simp only[R1,am];by_cases h0:s=[];subst h0;refine wk ?_;exact ac (no.o rfl);have hlen:0<s.length:=akh.2 h0;by_cases h1:(32:Int)<(s.length:Int);refine wk ?_;exact ac (no.o (by simp[ix];omega));obtain⟨c0,hc0⟩:=ajl (s.getD 0 0);have hr:=c0.toNat_lt;have w0:IntKind.i32.wrap (c0.toNat:Int)=(c0.toNat:Int):=ZG amM amM;cases hl0:l5 (c0.toNat:Int)with
 | false =>
   have kk1:=@hid _ @lY;refine wk ?_;refine ac (no.o ?_);simp only[ix,hc0,hl0,al5,akp]
 | true =>
   have kk1:=@hid _ @lY;refine wk ?_;refine aq (λn T' L'=>∃p,n=s.length-p/\p<=s.length/\Hid (∀c∈s.take p,OQ (c.toNat:Int)=true)/\T'=[(20,.ptr L.length 0)]/\L'=L++[.siter s p]) amQ ⟨0,rfl,aju _,hid amN,rfl,rfl⟩ ?_;rintro _ _ _ ⟨p,rfl,hp,hall,rfl,rfl⟩;by_cases hlt:p<s.length
   .obtain⟨c,hc⟩:=ajl (s.getD p 0);have hmem:c∈s:=(by rw[<- hc];simp[hlt]);have htk:s.take (p+1)=s.take p++[c]:=(by rw[ajN hlt,<- hc];simp[hlt]);replace htk:=hid htk;have bad:OQ (c.toNat:Int)=false->K (.bool false) L:=λe=>no.o (by have:(s.all λc=>OQ (c.toNat:Int))=false:=List.all_eq_false.2 ⟨c,hmem,by rw[e];simp⟩;simp only[ix,this,al5])
    replace bad:=hid bad;by_cases ha:c.toNat<128
    .have hd:=aaC hlt (by rw[hc];exact ha);rw[hc]at hd;obtain⟨x,hx⟩:∃x:Nat,c.toNat=x:=⟨_,rfl⟩;rw[hx]at hd bad;have hx':=hid hx;clear hx hc hmem ha hr w0;cases hxl:l5 (x:Int)with
     | true =>
       have kk1:=@hid _ @lY;refine wk ?_;refine amR amM amQ ⟨p+1,rfl,hlt,hid λd hd'=>?_,rfl,rfl⟩;rw[htk.o]at hd';rcases ajx.1 hd' with h|h
       .exact hall.o d h
       .rw[ajI.1 h,hx'.o,OQ,hxl];rfl
     | false =>
       repeat' first
        |refine cA ?_
        | (first|refine bG amO ?_|refine ba amO ?_|refine be ?_|refine dN ?_|refine cD (fun _=>?_)|refine aU ?_|refine bI ?_|refine lY ?_|refine bQ (lY ⟨rfl,rfl⟩) (lY ⟨rfl,rfl⟩) ?_|refine bi (lY ⟨rfl,rfl⟩) ?_)
          refine sm ?_
        | (first|refine bC amO ?_|refine bz ?_|refine bd ?_|refine bH ?_|refine cI (aT ?_))
          refine sl ?_
        |exact cE
        |first|apply cF|apply bD|apply cG|apply bE|apply cH|apply bF
        |refine bh ?_
        |refine bc ?_
        |first|refine bf rfl ?_|refine bg rfl ?_|refine aI rfl ?_ ?_|refine bm rfl (λ_=>?_) (λ_=>?_)|refine bj rfl (λ_=>?_) (λ_=>?_)
        |((first|refine aG (λ_=>?_) (λ_=>?_)|refine aS (λ_=>?_) (λ_=>?_))<;>try refine sm ?_)
        |refine And.intro trivial ?_
        |refine And.intro amM ?_
        |refine br rfl (λ_=>?_) (λ_=>?_)
        |refine And.intro ?_ ?_
       .rename_i hb;refine ab rfl (bad.o ?_);simp only[OQ,hxl,akE,alC,al7,decide_eq_false_iff_not];omega
       .rename_i hb;refine amR amM amQ ⟨p+1,rfl,hlt,hid λd hd'=>?_,rfl,rfl⟩;rw[htk.o]at hd';rcases ajx.1 hd' with h|h
        .exact hall.o d h
        .rw[ajI.1 h,hx'.o];simp only[OQ,hxl,akE,akc,ajv,decide_eq_true_eq];omega
    .have hh:=acJ hlt (by rw[hc];omega);obtain⟨⟨x,wd⟩,hd⟩:∃q,Vn s p=q:=⟨_,rfl⟩;rw[hd]at hh;simp only at hh;have bad':=hid (bad.o (Ww (show(128:Int)<=(c.toNat:Int)by omega)));have hxl:l5 (x:Int)=false:=by have:=Ww (show(128:Int)<=(x:Int)by omega);simp only[OQ,alC]at this;exact this.1.1
     have f1:¬(x:Int)<48:=amM;have f2:(57:Int)<(x:Int):=amM;have f3:¬(x:Int)=45:=amM;clear hc hmem hr w0;have kk1:=@hid _ @lY;refine wk ?_;exact ab rfl bad'.o
   .have hke:p=s.length:=amM;subst hke;have h':=h.o;have e:ix s=true:=by
     have e1:(s.all λc=>OQ (c.toNat:Int))=true:=ajE.2 λc hcm=>hall.o c (by rw[ajL];exact hcm)
     simp only[ix,e1,hc0,hl0,alw];simp;omega
    rw[e]at h';replace h':=hid h';clear e;refine wk ?_;exact ab rfl h'.o
variable {L:List Blk}{K:ajq}
abbrev Ava:=List UInt8×List UInt8
variable {r:List Ava}
def mu(a:Ava):List AV:=[.str a.1,.str a.2]
def aL(r:List Ava):List AV:=r.flatMap mu
abbrev ZU(r:List Ava)(cap:Option Nat):AV:=.sl (aL r) r.length cap
def jB(r:List Ava)(typ:List UInt8):Bool:=r.any λa=>decide (ag a.1=ag typ)
theorem ahN{a:Ava}(h1:(a.1.length:Int)<=100000)(h2:(typ.length:Int)<=100000)(hL:L[ip]?=some (.cells [.str typ]))(h:K (.bool (decide (ag a.1=ag typ))) L):
  ajp 176 [.agg (mu a),.ptr ip 0] L K:=by
 obtain⟨t,v⟩:=a;replace h:=hid h;have hip:ip<L.length:=(ajr.1 hL).1;have g1:(L++[Blk.cells [.str t,.str v]])[ip]?=some (.cells [.str typ]):=by rw[ajw hip];exact hL
 simp only[mu];refine aa Wg (by simp[OB]) ?_;simp only[OB,am];have kk1:=@amT _ _ _ _ (Js h1);have kk2:=@amT _ _ _ _ (Js h2);refine wk ?_;exact ab rfl h.o
theorem cJ(r:List Ava):(aL r).length=r.length*2:=by
 induction r with
 |nil=>rfl
 |cons a r ih=>simp only[aL,aj5,ajA,mu,ajz,aj9]at ih⊢;omega
theorem fL:∀{r:List Ava}{k:Nat},k<r.length->((aL r).drop (k*2)).take 2=mu (r.getD k ([],[]))
 |a::r,0,_=>rfl
 |a::r,k+1,h=>by have ih:=@fL r k (by simpa using h);rw[show(k+1)*2=k*2+1+1 by omega];simpa[aL,mu]using ih
theorem aeo(hn:r.length<=100000)(h1:∀a∈r,(a.1.length:Int)<=100000)(h2:(typ.length:Int)<=100000)(hL:L[ip]?=some (.cells [.str typ]))(hno:jB r typ=false->K (.int .i64 (-1)) L)(hyes:∀k:Nat,jB r typ=true->K (.int .i64 k) L):ajp 204 [ZU r cap,.func 176 [.ptr ip 0]] L K:=by
 replace hno:=hid hno;replace hyes:=hid hyes;replace h1:=hid h1;refine ajo gU ?_;refine aq (λn T' L'=>∃(k:Nat),n=r.length-k/\k<=r.length/\Hid (jB (r.take k) typ=false)/\T'=[(8,.int .i64 (k:Int)),(7,.int .i64 r.length),(0,ZU r cap),(1,.func 176 [.ptr ip 0])]/\L=L') (CutS (b:=ajs _)) ⟨0,rfl,aju _,hid rfl,rfl,rfl⟩ ?_;rintro _ _ _ ⟨k,rfl,hk,hf,rfl,rfl⟩;by_cases hlt:k<r.length;have g1:(k:Int)<(r.length:Int):=amM;have g2:=ajn k amM;have e1:=fL hlt;have e2:k*2+2<=(aL r).length:=by rw[cJ];omega
 obtain⟨a,ha⟩:=ajl (r.getD k ([],[]));have ham:a∈r:=by rw[<- ha];simp[hlt]
 have htk:r.take (k+1)=r.take k++[a]:=by rw[ajN hlt,<- ha];simp[hlt]
 rw[ha]at e1;have hs:jB (r.take (k+1)) typ=decide (ag a.1=ag typ):=by have:=hf.o;simp only[jB]at this⊢;rw[htk,alD,this];simp
 have hall:decide (ag a.1=ag typ)=true->jB r typ=true:=λe=>akX.2 ⟨a,ham,e⟩
 replace hall:=hid hall;replace hs:=hid hs;replace htk:=hid htk;have ha1:=hid (h1.o a ham);clear ha ham;refine wk ?_;refine ahN ha1.o h2 hL ?_;refine sk ?_;cases hd:decide (ag a.1=ag typ)with
 | true =>
   have hy:=hid (hyes.o k (hall.o hd));replace hd:=hid hd;refine wk ?_;exact ac hy.o
 | false =>
   replace hd:=hid hd;refine wk ?_;exact amR amM (CutS (b:=ajs _)) ⟨k+1,rfl,hlt,hid (by rw[hs.o,hd.o]),rfl,rfl⟩
 have hke:k=r.length:=amM;subst hke;have g1:¬(r.length:Int)<(r.length:Int):=amM;have hn':=hf.o;rw[ajL]at hn';have hy:=hid (hno.o hn');clear hn';refine wk ?_;exact ac hy.o
theorem Zn(hn:r.length<=100000)(h1:∀a∈r,(a.1.length:Int)<=100000)(h2:(typ.length:Int)<=100000)(hL:L[ip]?=some (.cells [.str typ]))(h:K (.bool (jB r typ)) L):
  ajp 175 [ZU r cap,.func 176 [.ptr ip 0]] L K:=by
 replace h:=hid h;refine ajo gC ?_;refine aeo hn h1 h2 hL (λe=>?_) (λk e=>?_);have h':=h.o;rw[e]at h';replace h':=hid h';refine amU ?_;exact ac h'.o;have h':=h.o;rw[e]at h';replace h':=hid h';have g:(0:Int)<=(k:Int):=amM;refine amU ?_;exact ac h'.o
theorem ag6(hn:r.length<=100000)(h1:∀a∈r,(a.1.length:Int)<=100000)(h2:(typ.length:Int)<=100000)(h:K (.bool (jB r typ)) L):
  ajp 121 [ZU r cap,.str typ] L K:=by
 replace h:=hid h;refine ajo Zo ?_;refine Zn hn h1 h2 amN ?_;refine amU ?_;exact ab rfl h.o
theorem gq{a:List UInt8}{c:UInt8}{L:List Blk}{K:ajq}(h:K (.int .i64 (Lib.indexByte a c)) L):ajp 177 [.str a,.int .u8 c.toNat] L K :=
 kw Tryz.func177 rfl amO (λw0 S0 E w vs hR hv=>by simp only[VRL,VR]at hv;obtain⟨_,_,rfl,rfl,_,_,rfl,rfl,rfl⟩:=hv;exact(Tryz.strings_IndexByte ⟨⟨a⟩⟩ c.toNat w).mono λe w' ⟨he,hw⟩=>⟨_,he,by simp[VR],by subst hw;exact VZ.refl _⟩) h
theorem oO(a:List UInt8)(c:UInt8):(0<=Lib.indexByte a c)↔c∈a:=by
 induction a with
 |nil=>simp[Lib.indexByte]
 | cons b l ih =>
   have hge:=Lib.indexByte_ge l c;unfold Lib.indexByte;by_cases hb:b=c
   .simp[hb]
   .have e1:(b == c)=false:=(by simpa using hb);rw[e1];simp only[ajK,if_false];have e2:c∈b::l↔c∈l:=(by simp[Ne.symm hb]);rw[e2,<- ih];split
    .rename_i h;simp at h;omega
    .rename_i h;simp at h;omega
theorem bv(c d:UInt8):(c.toNat:Int)=(d.toNat:Int)↔c=d:=by constructor;intro h;exact alp.1 amM;rintro rfl;rfl
def wrB(i n:Nat)(c:UInt8):List UInt8 :=
 if c=0 then[92,48,48]else if(i=0/\(c=32\/c=35))\/(i+1=n/\c=32)\/c∈[34,43,44,59,60,62,92]then[92,c]else[c]
def wrL(n:Nat):Nat->List UInt8->List UInt8
 |_,[]=>[]
 |i,c::s=>wrB i n c++wrL n (i+1) s
def fN(s:List UInt8):List UInt8:=wrL s.length 0 s
theorem afw(i n:Nat)(c:UInt8):(wrB i n c).length<=3:=by unfold wrB;split;simp;split<;>simp
theorem gx(hs:s.length<=100000)(h:K (.str (fN s)) L):ajp 131 [.str s] L K:=by
 replace h:=hid h;have g0:IntKind.i64.wrap ((s.length:Int)-1)=(s.length:Int)-1:=ae amM amM;refine ajo TN ?_;refine bK (l:=[]) (n:=0) 3 1 rfl (ajX 1).symm ?_;refine aq (λn T' L'=>∃(i m:Nat) (b:List UInt8),n=s.length-i/\i<=s.length/\m<=3*i/\Hid (m=b.length/\b++wrL s.length i (s.drop i)=fN s)/\T'=[(10,.int .i64 (i:Int)),(9,.int .i64 s.length),(8,.sl (u8s s) s.length none),(3,.gsl (u8s b) m L.length 1),(0,.str s)]/\L'=L++[.spare m 1]) amQ ⟨0,0,[],rfl,aju _,amM,hid ⟨rfl,rfl⟩,rfl,rfl⟩ ?_;rintro _ _ _ ⟨i,m,b,rfl,hi,hm,hb,rfl,rfl⟩;by_cases hlt:i<s.length
 .have g1:(i:Int)<(s.length:Int):=amM;have g2:=ajn i amM;obtain⟨c,hc⟩:=ajl (s.getD i 0);have g3:(u8s s).getD i .undef=.int .u8 c.toNat:=(by rw[<- hc];simp[u8s,hlt]);have hdr:s.drop i=c::s.drop (i+1):=(by rw[ajY hlt,<- hc];simp[hlt]);have hb2:=hb.o.2;rw[hdr]at hb2;simp only[wrL]at hb2;have g4:=iP;have g5:(u8s s).length=s.length:=(by simp[u8s]);clear hc hdr;replace hb2:=hid hb2
  repeat' first
   |refine cA ?_
   | (first|refine bG amO ?_|refine ba amO ?_|refine be ?_|refine dN ?_|refine cD (fun _=>?_)|refine aU ?_|refine bI ?_|refine gq ?_|refine bQ (gq ⟨rfl,rfl⟩) (gq ⟨rfl,rfl⟩) ?_|refine bi (gq ⟨rfl,rfl⟩) ?_)
     refine sm ?_
   | (first|refine bC amO ?_|refine bz ?_|refine bd ?_|refine bH ?_|refine cI (aT ?_))
     refine sl ?_
   |exact cE
   |first|apply cF|apply bD|apply cG|apply bE|apply cH|apply bF
   |refine bh ?_
   |refine bc ?_
   |first|refine bf rfl ?_|refine bg rfl ?_|refine aI rfl ?_ ?_|refine bm rfl (λ_=>?_) (λ_=>?_)|refine bj rfl (λ_=>?_) (λ_=>?_)
   |((first|refine aG (λ_=>?_) (λ_=>?_)|refine aS (λ_=>?_) (λ_=>?_))<;>try refine sm ?_)
   |refine And.intro trivial ?_
   |refine And.intro amM ?_
   |refine br rfl (λ_=>?_) (λ_=>?_)
   |refine And.intro ?_ ?_
  rfl;omega;rename_i h0;have hc0:=(bv c 0).1 h0;rw[show u8s b++AV.frzL (u8s [92,48,48])=u8s (b++[92,48,48])by simp[u8s,AV.frzL,AV.frz]];refine amR amM amP ⟨i+1,m+3,b++[92,48,48],rfl,hlt,amM,hid ⟨by simp[hb.o.1],?_⟩,rfl,rfl⟩;rw[<- hb2.o,wrB,if_pos hc0,ajD];rename_i h0 h1;have hc0:¬c=0:=λe=>h0 ((bv c 0).2 e)
  have hq:(i=0/\(c=32\/c=35))\/(i+1=s.length/\c=32)\/c∈[34,43,44,59,60,62,92]:=by rcases h1 with(⟨e1,e2⟩|⟨e1,e2⟩)|e;exact .inl ⟨amM,e2.imp (bv c 32).1 (bv c 35).1⟩;exact .inr (.inl ⟨amM,(bv c 32).1 e2⟩);exact .inr (.inr ((oO _ _).1 e))
  rw[show u8s b++[AV.int IntKind.u8 92,AV.int IntKind.u8 (c.toNat:Int)]=u8s (b++[92,c])by simp[u8s]];refine amR amM amP ⟨i+1,m+1+1,b++[92,c],rfl,hlt,amM,hid ⟨by simp[hb.o.1],?_⟩,rfl,rfl⟩;rw[<- hb2.o,wrB,if_neg hc0,if_pos hq,ajD];rename_i h0 h1;have hc0:¬c=0:=λe=>h0 ((bv c 0).2 e)
  have hq:¬((i=0/\(c=32\/c=35))\/(i+1=s.length/\c=32)\/c∈[34,43,44,59,60,62,92]):=λhq=>h1 (by rcases hq with⟨e1,e2⟩|⟨e1,e2⟩|e;exact .inl (.inl ⟨amM,e2.imp (bv c 32).2 (bv c 35).2⟩);exact .inl (.inr ⟨amM,(bv c 32).2 e2⟩);exact .inr ((oO _ _).2 e))
  rw[show u8s b++[AV.int IntKind.u8 (c.toNat:Int)]=u8s (b++[c])by simp[u8s]];refine amR amM amP ⟨i+1,m+1,b++[c],rfl,hlt,amM,hid ⟨by simp[hb.o.1],?_⟩,rfl,rfl⟩;rw[<- hb2.o,wrB,if_neg hc0,if_neg hq,ajD]
 have hke:i=s.length:=amM;subst hke;have g1:¬(s.length:Int)<(s.length:Int):=amM;have e1:=iP b;have e2:=ii b;have e:=hb.o.2;rw[ake,wrL,aj6]at e;have h':=h.o;rw[<- e]at h';replace h':=hid h';clear e;refine wk ?_;exact ab rfl h'.o
abbrev oR:List UInt8:=[34,43,44,59,60,62,92,32,35,61]
def gH:List UInt8->Bool->List UInt8->Option (List UInt8×List UInt8×Bool)
 |b,bl,[]=>some (b,[], !bl)
 | b,bl,c::s=>if c=44\/c=43 then some (b,c::s, !bl)
   else if c≠92 then(if c=0\/c∈([34,59,60,62]:List UInt8)\/(b=[]/\(c=32\/c=35))then none else gH (b++[c]) (decide (c=32)) s)
   else match s with
    |[]=>none
    | d::s1=>if d∈oR then gH (b++[d]) false s1 else match s1 with
      |[]=>none
      | e::s2=>match Q4 d e with
        |none=>none
        |some x=>gH (b++[x]) false s2
def abD(o:Option (List UInt8×List UInt8×Bool)):AV:=match o with
 |none=>.tup [.str [],.str [],.bool false]
 |some (v,r,f)=>.tup [.str v,.str r,.bool f]
theorem kI  :gH b bl []=some (b,[], !bl):=by rw[gH.eq_def]
theorem oM{c:UInt8}(h:c=44\/c=43):gH b bl (c::s)=some (b,c::s, !bl):=by rw[gH.eq_def];simp only[if_pos h]
theorem j8{c:UInt8}(h:¬(c=44\/c=43))(h2:c≠92):gH b bl (c::s)=if c=0\/c∈([34,59,60,62]:List UInt8)\/(b=[]/\(c=32\/c=35))then none else gH (b++[c]) (decide (c=32)) s:=by rw[gH.eq_def];simp only[if_neg h,if_pos h2]
theorem JX  :gH b bl [92]=none:=by rw[gH.eq_def];rfl
theorem tJ(h:d∈oR):gH b bl (92::d::s)=gH (b++[d]) false s:=by rw[gH.eq_def];simp only[show ¬((92:UInt8)=44\/(92:UInt8)=43)by decide,if_false,ne_eq,not_true_eq_false,if_pos h]
theorem JW(h:¬d∈oR):gH b bl [92,d]=none:=by rw[gH.eq_def];simp only[show ¬((92:UInt8)=44\/(92:UInt8)=43)by decide,if_false,ne_eq,not_true_eq_false,if_neg h]
theorem Fx{e:UInt8}(h:¬d∈oR):gH b bl (92::d::e::s)=match Q4 d e with|none=>none|some x=>gH (b++[x]) false s:=by rw[gH.eq_def];simp only[show ¬((92:UInt8)=44\/(92:UInt8)=43)by decide,if_false,ne_eq,not_true_eq_false,if_neg h]
theorem jY{i:Nat}(h:i<s.length):s.drop i=s.getD i 0::s.drop (i+1):=by rw[ajY h];simp[h]
theorem afz(hs:s.length<=100000)(h:K (abD (gH [] false s)) L):ajp 122 [.str s] L K:=by
 replace h:=hid h;refine ajo Wf ?_;refine bK (l:=[]) (n:=0) 5 1 rfl (ajX 1).symm ?_;refine aq (λn T' L'=>∃(i m:Nat) (b:List UInt8) (bl:Bool),n=s.length-i/\i<=s.length/\m<=i/\Hid (m=b.length/\gH b bl (s.drop i)=gH [] false s)/\T'=[(7,.int .i64 (i:Int)),(6,.bool bl),(5,.gsl (u8s b) m L.length 1),(0,.str s)]/\L'=L++[.spare m 1]) amQ ⟨0,0,[],false,rfl,aju _,amM,hid ⟨rfl,rfl⟩,rfl,rfl⟩ ?_;rintro _ _ _ ⟨i,m,b,bl,rfl,hi,hm,hb,rfl,rfl⟩;have e1:=iP b;have e2:=ii b;by_cases hlt:i<s.length
 .have g1:(i:Int)<(s.length:Int):=amM;have g2:=ajn i amM;obtain⟨c,hc⟩:=ajl (s.getD i 0);have hdr:=jY hlt;rw[hc]at hdr;have hb2:=hb.o.2;rw[hdr]at hb2;have hds:(s.drop i).take (s.length-i)=s.drop i:=aj3 amN;have hl1:(i:Int)<=(s.length:Int):=amM;by_cases hcc:c=44\/c=43;rw[oM hcc]at hb2;have h':=h.o;rw[<- hb2]at h';simp only[abD]at h';rw[<- hdr]at h';replace h':=hid h';have k1:((c.toNat:Int)=44)\/((c.toNat:Int)=43):=hcc.imp (bv c 44).2 (bv c 43).2;clear hb2 hcc hdr;rcases k1 with k1|k1;refine wk ?_;exact ab rfl h'.o;refine wk ?_;exact ab rfl h'.o
  .have k1:¬(c.toNat:Int)=44:=λe=>hcc (.inl ((bv c 44).1 e))
   have k2:¬(c.toNat:Int)=43:=λe=>hcc (.inr ((bv c 43).1 e))
   by_cases h92:c=92;subst h92;have g3:IntKind.i64.wrap ((i:Int)+2)=(i:Int)+2:=ae amM amM;have g4:IntKind.i64.wrap ((i:Int)+3)=(i:Int)+3:=ae amM amM;have g5:IntKind.i64.wrap ((i:Int)+1+1)=(i:Int)+1+1:=ae amM amM;have g6:IntKind.i64.wrap ((i:Int)+2+1)=(i:Int)+2+1:=ae amM amM;have t1:((i:Int)+1).toNat=i+1:=amM;have t3:((i:Int)+3).toNat=i+3:=amM;by_cases h1:i+1<s.length;have f1:(i:Int)+1<(s.length:Int):=amM;obtain⟨d,hd⟩:=ajl (s.getD (i+1) 0);have hdr1:=jY h1;rw[hd]at hdr1;rw[hdr1]at hb2;by_cases hsp:d∈oR;rw[tJ hsp]at hb2;have f2:=(oO oR d).2 hsp;clear hdr hdr1;replace hb2:=hid hb2;have kk1:=@hid _ @gq;refine wk ?_;rw[show u8s b++[AV.int IntKind.u8 (d.toNat:Int)]=u8s (b++[d])by simp[u8s],show decide (((UInt8.toNat 92:Nat):Int)=32)=false from rfl];refine amR amM amP ⟨i+1+1,m+1,b++[d],false,rfl,h1,amM,hid ⟨by simp[hb.o.1],hb2.o⟩,rfl,rfl⟩;have f2:¬0<=Lib.indexByte oR d:=λe=>hsp ((oO oR d).1 e)
   by_cases h2:i+2<s.length;have f3:(i:Int)+2<(s.length:Int):=amM;have f4:(i:Int)+1<=(i:Int)+3:=amM;have f5:(i:Int)+3<=(s.length:Int):=amM;have f6:(0:Int)<=(i:Int)+1:=amM;obtain⟨e,he⟩:=ajl (s.getD (i+2) 0);have hdr2:=jY h2;rw[he]at hdr2;rw[hdr2,Fx hsp]at hb2;have hcut:(s.drop (i+1)).take (i+3-(i+1))=[d,e]:=by rw[hdr1,hdr2,show i+3-(i+1)=2 by omega];rfl
   clear hdr hdr1 hdr2;replace hb2:=hid hb2;have kk1:=@hid _ @gq;refine wk ?_;refine adn ?_;rcases hx:Q4 d e with _|x;rw[show Oj d e=.tup [.str [],.bool false]by simp only[Oj,hx]];have h':=h.o;rw[<- hb2.o,hx]at h';simp only[abD]at h';replace h':=hid h';clear hx;refine amU ?_;exact ab rfl h'.o;rw[show Oj d e=.tup [.str [x],.bool true]by simp only[Oj,hx]];have hb3:=hb2.o;rw[hx]at hb3;simp only at hb3;replace hb3:=hid hb3;have q1:[x].getD 0 0=x:=rfl;clear hx hb2;refine amU ?_;rw[show u8s b++[AV.int IntKind.u8 (x.toNat:Int)]=u8s (b++[x])by simp[u8s],show decide (((UInt8.toNat 92:Nat):Int)=32)=false from rfl];refine amR amM amP ⟨i+2+1,m+1,b++[x],false,rfl,h2,amM,hid ⟨by simp[hb.o.1],hb3.o⟩,rfl,rfl⟩;have f3:¬(i:Int)+2<(s.length:Int):=amM;have hnil:s.drop (i+1+1)=[]:=alh amM;rw[hnil,JW hsp]at hb2;have h':=h.o;rw[<- hb2]at h';replace h':=hid h';clear hdr hdr1 hb2;have kk1:=@hid _ @gq;refine wk ?_;exact ab rfl h'.o;have f1:¬(i:Int)+1<(s.length:Int):=amM;have f3:¬(i:Int)+2<(s.length:Int):=amM;have hnil:s.drop (i+1)=[]:=alh amM;rw[hnil,JX]at hb2;have h':=h.o;rw[<- hb2]at h';replace h':=hid h';clear hdr hb2;have kk1:=@hid _ @gq;refine wk ?_;exact ab rfl h'.o
   .rw[j8 hcc h92]at hb2;have k3:¬(c.toNat:Int)=92:=λe=>h92 ((bv c 92).1 e)
    clear hdr;replace hb2:=hid hb2
    repeat' first
     |refine cA ?_
     | (first|refine bG amO ?_|refine ba amO ?_|refine be ?_|refine dN ?_|refine cD (fun _=>?_)|refine aU ?_|refine bI ?_|refine gq ?_|refine bQ (gq ⟨rfl,rfl⟩) (gq ⟨rfl,rfl⟩) ?_|refine bi (gq ⟨rfl,rfl⟩) ?_)
       refine sm ?_
     | (first|refine bC amO ?_|refine bz ?_|refine bd ?_|refine bH ?_|refine cI (aT ?_))
       refine sl ?_
     |exact cE
     |first|apply cF|apply bD|apply cG|apply bE|apply cH|apply bF
     |refine bh ?_
     |refine bc ?_
     |first|refine bf rfl ?_|refine bg rfl ?_|refine aI rfl ?_ ?_|refine bm rfl (λ_=>?_) (λ_=>?_)|refine bj rfl (λ_=>?_) (λ_=>?_)
     |((first|refine aG (λ_=>?_) (λ_=>?_)|refine aS (λ_=>?_) (λ_=>?_))<;>try refine sm ?_)
     |refine And.intro trivial ?_
     |refine And.intro amM ?_
     |refine br rfl (λ_=>?_) (λ_=>?_)
     |refine And.intro ?_ ?_
    rename_i hx;have hbad:c=0\/c∈([34,59,60,62]:List UInt8)\/(b=[]/\(c=32\/c=35)):=by rcases hx with(e|e)|⟨e,e'⟩;exact .inl ((bv c 0).1 e);exact .inr (.inl ((oO _ _).1 e));refine .inr (.inr ⟨aj4.1 ?_,e'.imp (bv c 32).1 (bv c 35).1⟩);have:=hb.o.1;omega
    have h':=h.o;rw[<- hb2.o,if_pos hbad]at h';exact ab rfl h';rename_i hx;have hbad:¬(c=0\/c∈([34,59,60,62]:List UInt8)\/(b=[]/\(c=32\/c=35))):=λe=>hx (by rcases e with e|e|⟨e,e'⟩;exact .inl (.inl ((bv c 0).2 e));exact .inl (.inr ((oO _ _).2 e));refine .inr ⟨?_,e'.imp (bv c 32).2 (bv c 35).2⟩;have:=hb.o.1;rw[e]at this;simp at this;omega)
    have hc32:decide ((c.toNat:Int)=32)=decide (c=32):=by have:=bv c 32;simp only[decide_eq_decide];exact this
    rw[show u8s b++[AV.int IntKind.u8 (c.toNat:Int)]=u8s (b++[c])by simp[u8s],hc32];refine amR amM amP ⟨i+1,m+1,b++[c],decide (c=32),rfl,hlt,amM,hid ⟨by simp[hb.o.1],?_⟩,rfl,rfl⟩;rw[<- hb2.o,if_neg hbad]
 have hke:i=s.length:=amM;subst hke;have g1:¬(s.length:Int)<(s.length:Int):=amM;have h':=h.o;rw[<- hb.o.2,ake,kI]at h';simp only[abD]at h';replace h':=hid h';have hds:(s.drop s.length).take (s.length-s.length)=[]:=amN;refine wk ?_;exact ab rfl h'.o
def jr:List UInt8->Option (List UInt8×List UInt8)
 |[]=>none
 | c::s=>if c=61 then some ([],s) else match jr s with
   |none=>none
   |some (a,b)=>some (c::a,b)
theorem Vp:∀s:List UInt8,(Lib.indexByte s 61=-1/\jr s=none)\/∃n:Nat,n<s.length/\Lib.indexByte s 61=(n:Int)/\jr s=some (s.take n,s.drop (n+1))
 |[]=>.inl ⟨rfl,rfl⟩
 | c::s=>by
   by_cases hc:c=61
   .subst hc;exact .inr ⟨0,amN,by simp[Lib.indexByte],by simp[jr]⟩
   .have e1:(c == 61)=false:=(by simpa using hc);unfold Lib.indexByte;rw[e1];simp only[ajK,if_false,jr,if_neg hc];rcases Vp s with⟨h1,h2⟩|⟨n,h0,h1,h2⟩
    .exact .inl ⟨by rw[h1];rfl,by rw[h2]⟩
    .refine .inr ⟨n+1,by simp;omega,?_,by rw[h2];simp⟩;rw[h1];have:((n:Int) == -1)=false:=amN;rw[this];simp
def Vo(s:List UInt8):AV:=match jr s with
 |some (a,b)=>.tup [.str a,.str b,.bool true]
 |none=>.tup [.str s,.str [],.bool false]
theorem Y2{a:List UInt8}{c:UInt8}{L:List Blk}{K:ajq}(h:K (.int .i64 (Lib.indexByte a c)) L):ajp 168 [.str a,.str [c]] L K :=
 kw Tryz.func168 rfl amO (λw0 S0 E w vs hR hv=>by simp only[VRL,VR]at hv;obtain⟨_,_,rfl,rfl,_,_,rfl,rfl,rfl⟩:=hv;exact(Tryz.stringslite_Index_one ⟨⟨a⟩⟩ c w).mono λe w' ⟨he,hw⟩=>⟨_,he,by simp[VR],by subst hw;exact VZ.refl _⟩) h
theorem aeQ(hs:s.length<=100000)(h:K (Vo s) L):ajp 173 [.str s,.str [61]] L K:=by have hl:[(61:UInt8)].length=1:=rfl;rcases Vp s with⟨h1,h2⟩|⟨n,h0,h1,h2⟩;simp only[Vo,h2]at h;replace h:=hid h;clear h2;refine aa fR (by simp[cj]) ?_;simp only[cj,am];have kk1:=@hid _ @Y2;refine wk ?_;exact ac h.o;simp only[Vo,h2]at h;replace h:=hid h;have g1:(0:Int)<=(n:Int):=amM;have g2:=ajn n amM;have g3:(n:Int)<=(s.length:Int):=amM;have g4:(n:Int)+1<=(s.length:Int):=amM;have g5:(0:Int)<=(n:Int)+1:=amM;have g6:((n:Int)+1).toNat=n+1:=amM;have g7:(s.drop (n+1)).take (s.length-(n+1))=s.drop (n+1):=aj3 amN;clear h2;refine aa fR (by simp[cj]) ?_;simp only[cj,am];have kk1:=@hid _ @Y2;refine wk ?_;exact ac h.o
theorem aiL(hs:s.length<=100000)(h:K (Vo s) L):ajp 119 [.str s,.str [61]] L K:=by
 rcases hc:jr s with _|⟨a,b⟩
 all_goals
  simp only[Vo,hc]at h;replace h:=hid h
 refine ajo xG ?_;refine aeQ hs ?_;simp only[Vo,hc];refine amU ?_;exact ac h.o;refine ajo xG ?_;refine aeQ hs ?_;simp only[Vo,hc];refine amU ?_;exact ac h.o
abbrev Rdn:=List Ava
abbrev ah(r:Rdn):AV:=ZU r none
def qA:Nat->List Rdn->Rdn->List UInt8->List Rdn×Int
 |0,_,_,_=>([],4)
 | f+1,out,now,s=>if out.length=32\/now.length=8 then ([],9) else match jr s with
   |none=>([],4)
   | some (typ,rest)=>if ix typ=false then ([],4) else if jB now typ=true then ([],21) else match gH [] false rest with
     |none=>([],4)
     | some (v,r2,ok)=>if ok=false then ([],4) else match r2 with
       |[]=>(out++[now++[(typ,v)]],0)
       |c::s'=>if c=44 then qA f (out++[now++[(typ,v)]]) [] s' else qA f out (now++[(typ,v)]) s'
def da(s:List UInt8):List Rdn×Int:=if 4096<s.length then([],5)else if s=[]then([],0)else qA (s.length+1) [] [] s
def Tf(p:List Rdn×Int):AV:=.tup [.sl (p.1.map ah) p.1.length none,.int .i64 p.2]
theorem Zh:∀{s a b:List UInt8},jr s=some (a,b)->b.length<s.length/\a.length<=s.length
 |[],a,b,h=>by simp[jr]at h
 | c::s,a,b,h=>by
   simp only[jr]at h;split at h
   .simp only[ajt,ajH]at h;obtain⟨rfl,rfl⟩:=h;simp
   .split at h
    .cases h
    .rename_i a' b' hc;simp only[ajt,ajH]at h;obtain⟨rfl,rfl⟩:=h;have:=Zh hc;simp;omega
theorem adk:∀(n:Nat){s b:List UInt8}{bl:Bool}{v r:List UInt8}{ok:Bool},s.length<=n->gH b bl s=some (v,r,ok)->r.length<=s.length:=by
 intro n;induction n with
 | zero =>
   intro s b bl v r ok hn h;obtain rfl:=aj4.1 (Nat.le_zero.1 hn);rw[kI]at h;cases h;simp
 | succ n ih =>
   intro s b bl v r ok hn h;cases s with
   |nil=>rw[kI]at h;cases h;simp
   | cons c s =>
     simp only[ajz]at hn;by_cases hc:c=44\/c=43
     .rw[oM hc]at h;cases h;simp
     by_cases h92:c=92
     .subst h92;cases s with
      |nil=>rw[JX]at h;cases h
      | cons d s =>
        by_cases hd:d∈oR
        .rw[tJ hd]at h;have:=ih (by simp at hn;omega) h;simp;omega
        .cases s with
         |nil=>rw[JW hd]at h;cases h
         | cons e s =>
           rw[Fx hd]at h;split at h
           .cases h
           .have:=ih (by simp at hn;omega) h;simp;omega
     .rw[j8 hc h92]at h;split at h
      .cases h
      .have:=ih amM h;simp;omega
section
variable {P:Program}{N:Nat}{own:Nat->Nat->Nat}{Q:Exit->Tm->List Blk->Prop}{T:Tm}{L:List Blk}
theorem Ya{lc:bq}(t sz B:Nat){l:List AV}{n:Nat}{v:AV}(ht:ay T t=some v)(hB:B<L.length)(hv:(v=.sl [] 0 (some 0)/\l=[]/\n=0)\/∃i,B<i/\v=.gsl l n i sz/\L[i]?=some (.spare n sz))(h:∀i X,B<i->(L++X)[i]?=some (.spare n sz)->AW P N own lc Q ((t,.gsl l n i sz)::T) (L++X)):AW P N own lc Q T L:=by
 rcases hv with⟨rfl,rfl,rfl⟩|⟨i,hBi,rfl,hi⟩;exact bK t sz ht amN (h L.length [.spare 0 sz] hB amN);have h':=h i [] hBi (by simpa using hi);rw[aj6]at h';refine h'.weakT λt' v' e=>?_
 simp only[ay]at e;split at e;rename_i e1;subst e1;cases e;exact ht;exact e
end
variable {L:List Blk}{K:ajq}
set_option maxHeartbeats 8000000
set_option maxRecDepth 100000
def ah8(B:Nat)(r:Rdn)(v:AV)(L:List Blk):Prop:=(v=.sl [] 0 (some 0)/\aL r=[]/\r.length=0)\/∃i,B<i/\v=.gsl (aL r) r.length i 2/\L[i]?=some (.spare r.length 2)
theorem Xd(r:Rdn)(t v:List UInt8):aL (r++[(t,v)])=aL r++[.str t,.str v]:=by simp[aL,mu]
theorem fK(r:Rdn):AV.frzL (aL r)=aL r:=by
 induction r with
 |nil=>rfl
 |cons a r ih=>simpa[aL,mu,AV.frzL,AV.frz]using ih
theorem gS{L0 X:List Blk}{e:Int}{K:ajq}(h:K (Tf ([],e)) L0):Fin L0 (.tup [.sl [] 0 (some 0),.int .i64 e]) (L0++X) K:=aJ (ab rfl h)
theorem aY(d:List Rdn):AV.frzL (d.map ah)=d.map ah:=by
 rw[AV.frzL_eq,ajS];refine akF λr _=>?_
 simp only[Function.comp,AV.frz,fK]
theorem acP(q:Nat->Bool)(r:Rdn):AV.refsL q (aL r)=true:=by
 induction r with
 |nil=>rfl
 |cons a r ih=>simpa[aL,mu,AV.refsL,AV.refs]using ih
theorem dX(q:Nat->Bool):∀d:List Rdn,AV.refsL q (d.map ah)=true
 |[]=>rfl
 |r::d=>by simp only[ajP,AV.refsL,AV.refs,acP,dX q d,alo]
theorem tL(h:ix s=true):s.length<=32:=by simp only[ix,ajv,decide_eq_true_eq]at h;exact h.1.1.2
theorem ahM{r:Rdn}{i n:Nat}(hr:r.length=n)(hn:n<=8)(h1:∀a∈r,a.1.length<=32)(h2:typ.length<=4096)(h:K (.bool (jB r typ)) L):
  ajp 121 [.gsl (aL r) n i 2,.str typ] L K:=by
 subst hr;exact gZ (by simpa only[AV.frzL,AV.frz,fK]using ag6 (cap:=none) amM (λa ha=>by have:=h1 a ha;omega) amM h)
theorem abe(h:K (Tf (da s)) L):ajp 77 [.str s] L K:=by
 refine aa Wj (by simp[OE]) ?_;simp only[OE,am];by_cases h1:4096<s.length;have f1:(4096:Int)<(s.length:Int):=amM;rw[da,if_pos h1]at h;replace h:=hid h;clear h1;refine wk ?_;exact aJ (ac h.o);have f1:¬(4096:Int)<(s.length:Int):=amM;rw[da,if_neg h1]at h;by_cases h2:s=[];rw[if_pos h2]at h;replace h:=hid h;refine wk ?_;exact aJ (ac h.o);rw[if_neg h2]at h;replace h:=hid h;have hs:=hid (show s.length<=4096 by omega);clear h1;obtain⟨R,hR⟩:=ajl (qA (s.length+1) [] [] s);rw[hR]at h;refine wk ?_;refine bK (l:=[]) (n:=0) 4 1 rfl (ajX 1).symm ?_;refine aq (λn T' L'=>∃(f m:Nat) (out:List Rdn) (now:Rdn) (u:List UInt8) (v:AV) (X:List Blk),f=n/\u.length<=4096/\m=out.length/\m<=32/\now.length<=8/\Hid (u.length<f/\qA f out now u=R/\(∀a∈now,a.1.length<=32)/\ah8 L.length now v L')/\L'[L.length]?=some (.spare m 1)/\T'=[(5,v),(4,.gsl (out.map ah) m L.length 1),(0,.str u)]/\L'=L++X) amQ ⟨s.length+1,0,[],[],s,_,[.spare 0 1],rfl,hs.o,rfl,amM,amN,hid ⟨amM,hR,amN,.inl ⟨rfl,rfl,rfl⟩⟩,amN,rfl,rfl⟩ ?_;clear h2;clear hs;rintro _ _ _ ⟨f,m,out,now,u,v,X,rfl,hu,hm,hm32,hn8,hI,ho,rfl,rfl⟩;obtain⟨hf,hp,ht,hv⟩:=hI.o;clear hI;clear hR;obtain⟨f,rfl⟩:∃g,f=g+1:=⟨f-1,amM⟩;have hB:L.length<(L++X).length:=(ajr.1 ho).1;refine Ya 5 2 L.length rfl hB hv λi Y hBi hi=>?_
 rw[ajD]at hi⊢;have ho2:(L++(X++Y))[L.length]?=some (.spare m 1):=by rw[<- ajD,ajw hB];exact ho
 generalize X++Y=Z at hi ho2⊢;clear ho hB hv;have s5:∀A,(L++Z).set i A=L++Z.set (i-L.length) A:=λA=>ajZ _ _ amM
 have s4:∀(W:List Blk) A,(L++W).set L.length A=L++W.set 0 A:=λW A=>by rw[ajZ _ _ (ajs _),ale]
 have hz:i-L.length≠0:=amM;have s54:∀A,(L++Z.set (i-L.length) A)[L.length]?=some (.spare m 1):=λA=>by rw[<- s5,ajJ amM];exact ho2
 have s55:∀A,(L++Z.set (i-L.length) A)[i]?=some A:=λA=>by rw[<- s5,aj1,if_pos rfl,if_pos (ajr.1 hi).1]
 have hul:=hu;obtain⟨c,hc⟩:∃c:Nat,now.length=c:=⟨_,rfl⟩;rw[qA]at hp;rw[hc]at hp hi hn8⊢;by_cases hlim:out.length=32\/c=8;rw[if_pos hlim]at hp;have h':=h.o;rw[<- hp]at h';replace h':=hid h';have k:(m:Int)=32\/(m:Int)≠32/\(c:Int)=8:=amM;clear hp hlim;clear hm;rcases k with k|⟨k,k'⟩;refine wk ?_;exact gS h'.o;refine wk ?_;exact gS h'.o;rw[if_neg hlim]at hp;have k1:¬(m:Int)=32:=amM;have k2:¬(c:Int)=8:=amM;replace hm:=hid hm;clear hlim;replace hp:=hid hp;replace ht:=hid ht;refine wk ?_;refine aiL amM ?_;rcases hcut:jr u with _|⟨typ,rest⟩;rw[show Vo u=.tup [.str u,.str [],.bool false]by simp only[Vo,hcut]];have h':=h.o;rw[<- hp.o,hcut]at h';simp only at h';replace h':=hid h';refine amU ?_;exact gS h'.o;rw[show Vo u=.tup [.str typ,.str rest,.bool true]by simp only[Vo,hcut]];have hp2:=hp.o;rw[hcut]at hp2;simp only at hp2;have hlen:=Zh hcut;replace hp2:=hid hp2;clear hcut hp;refine sk ?_;cases hty:ix typ with
 | false =>
   have h':=h.o;rw[<- hp2.o,if_pos hty]at h';replace h':=hid h';have kk1:=@hid _ @ZN;refine wk ?_;exact gS h'.o
 | true =>
   have hp3:=hp2.o;rw[if_neg (by rw[hty];simp)]at hp3;replace hp3:=hid hp3;clear hp2;have kk1:=@hid _ @ZN;refine wk ?_;refine ahM hc hn8 ht.o amM ?_;cases hha:jB now typ with
   | true =>
     have h':=h.o;rw[<- hp3.o,if_pos hha]at h';replace h':=hid h';refine amU ?_;exact gS h'.o
   | false =>
     have hp4:=hp3.o;rw[if_neg (by rw[hha];simp)]at hp4;replace hp4:=hid hp4;clear hp3;refine amU ?_;refine afz amM ?_;rcases hvl:gH [] false rest with _|⟨w,r2,okk⟩
     .have h':=h.o;rw[<- hp4.o,hvl]at h';simp only at h';replace h':=hid h';simp only[abD];refine amU ?_;exact gS h'.o
     .have hp5:=hp4.o;rw[hvl]at hp5;simp only at hp5;have hl2:=adk _ (ajs _) hvl;replace hp5:=hid hp5;clear hp4 hvl;simp only[abD];refine sk ?_;cases okk with
      | false =>
        have h':=h.o;rw[<- hp5.o,if_pos rfl]at h';replace h':=hid h';refine wk ?_;exact gS h'.o
      | true =>
        have hp6:=hp5.o;rw[if_neg amN]at hp6;replace hp6:=hid hp6;clear hp5;have q1:(c+1)*32<=140737488355328:=amM;have q2:c+1<=140737488355328:=amM;have q3:(m+1)*24<=140737488355328:=amM;have q4:m+1<=140737488355328:=amM;have e1:aL now++[AV.str typ,AV.str w]=aL (now++[(typ,w)]):=(Xd _ _ _).symm;have e2:out.map ah++[AV.sl (AV.frzL (aL now++[AV.str typ,AV.str w])) (c+1) none]=(out++[now++[(typ,w)]]).map ah:=by rw[e1,fK,ajV];simp[hc]
        have e3:(out++[now++[(typ,w)]]).length=m+1:=(by simp[hm.o]);have e4:(now++[(typ,w)]).length=c+1:=(by simp[hc]);have e5:∀a∈now++[(typ,w)],a.1.length<=32:=λa ha=>by
         rcases ajx.1 ha with h|h
         .exact ht.o a h
         .rw[ajI.1 h];exact tL hty
        replace e1:=hid e1;replace e2:=hid e2;replace e3:=hid e3;replace e4:=hid e4;replace e5:=hid e5;cases r2 with
        | nil =>
          have h':=h.o;rw[<- hp6.o]at h';simp only at h';replace h':=hid h';refine wk ?_;rw[e2.o];refine aJ (ab ?_ ?_)
          .simp only[AV.frz,AV.frzL,aY,AV.refs,AV.refsL,dX,alo]
          .simp only[AV.frz,AV.frzL,aY];have:=h'.o;simp only[Tf,e3.o]at this;exact this
        | cons x s' =>
          simp only at hp6;have q5:¬(x::s'=[]):=amN;have q7:((s'.length:Int)+1).toNat-1=s'.length:=amM;have q8:s'.take (((s'.length:Int)+1).toNat-1)=s':=(by rw[q7,ajL]);simp only[ajz]at hl2;clear q7;replace q8:=hid q8;by_cases hx:x=44
          .subst hx;refine wk ?_;rw[q8.o,e2.o];refine amR ?_ (CutS (b:=?_)) ⟨f,m+1,out++[now++[(typ,w)]],[],s',.sl [] 0 (some 0),_,rfl,amM,e3.o.symm,amM,amN,hid ⟨amM,?_,amN,.inl ⟨rfl,rfl,rfl⟩⟩,?_,rfl,rfl⟩
           .omega
           .have:=(ajr.1 ho2).1;simp at this⊢;omega
           .rw[<- hp6.o,if_pos rfl]
           .have:=(ajr.1 ho2).1;rw[<- s4,aj1,if_pos rfl,if_pos (by simp at this⊢;omega)]
          .have q6:¬(x.toNat:Int)=44:=λe=>hx ((bv x 44).1 e)
           refine wk ?_;rw[q8.o,e1.o];refine amR ?_ (CutS (b:=?_)) ⟨f,m,out,now++[(typ,w)],s',.gsl (aL (now++[(typ,w)])) (c+1) i 2,_,rfl,amM,hm.o,hm32,by rw[e4.o];omega,hid ⟨amM,?_,e5.o,.inr ⟨i,hBi,by rw[e4.o],by rw[e4.o];exact s55 _⟩⟩,s54 _,rfl,rfl⟩
           .omega
           .have:=(ajr.1 ho2).1;simp at this⊢;omega
           .rw[<- hp6.o,if_neg hx]
def du:Rdn->Rdn->Int
 |_,[]=>0
 |done,a::t=>if done.length=8 then 9 else if ix a.1=false then 20 else if jB done a.1=true then 21 else du (done++[a]) t
def il:Nat->List Rdn->Int
 |_,[]=>0
 |i,r::t=>if i=32 then 9 else if r=[]then 2 else if du [] r≠0 then du [] r else il (i+1) t
theorem kc{d:List Rdn}{k:Nat}(h:k<d.length):(d.map ah).getD k .undef=ah (d.getD k []):=by simp[h]
theorem R3{r:Rdn}{k:Nat}:(aL r).take (k*2)=aL (r.take k):=by
 induction r generalizing k with
 |nil=>simp[aL]
 | cons a r ih =>
   cases k with
   |zero=>simp[aL]
   | succ k =>
     have:=@ih k;simp only[aL]at this;rw[show(k+1)*2=k*2+1+1 by omega];simp[aL,mu,this]
theorem ahL{r:Rdn}{n:Nat}(hr:r.length=n)(hn:n<=8)(h1:∀a∈r,a.1.length<=32)(h2:typ.length<=32)(h:K (.bool (jB r typ)) L):
  ajp 121 [.sl (aL r) n cap,.str typ] L K:=by
 subst hr;exact ag6 amM (λa ha=>by have:=h1 a ha;omega) amM h
theorem agy{d:List Rdn}(hn:d.length<=1100000)(hr:∀r∈d,r.length<=1100000)(h:K (.int .i64 (il 0 d)) L):ajp 84 [.sl (d.map ah) d.length cap] L K:=by
 replace h:=hid h;have hat:=hid (λk=>@kc d k);replace hr:=hid hr;refine ajo Wh ?_;refine aq (λn T' L'=>∃(i:Nat) (X:List Blk),n=d.length-i/\i<=d.length/\i<=32/\Hid (il i (d.drop i)=il 0 d)/\T'=[(9,.int .i64 (i:Int)),(8,.int .i64 d.length),(7,.sl (d.map ah) d.length cap)]/\L'=L++X) amQ ⟨0,[],rfl,aju _,amM,hid rfl,rfl,amN⟩ ?_;rintro _ _ _ ⟨i,X,rfl,hi,hi32,he,rfl,rfl⟩;by_cases hlt:i<d.length
 .have g1:(i:Int)<(d.length:Int):=amM;have g2:=ajn i amM;have e2:=hat.o i hlt;have hrl:=hr.o (d.getD i []) (by rw[ajO,ajF hlt];exact aky _);obtain⟨r,hri⟩:=ajl (d.getD i []);have hdr:d.drop i=r::d.drop (i+1):=(by rw[ajY hlt,<- hri];simp[hlt]);rw[hri]at e2 hrl;have he2:=he.o;rw[hdr,il]at he2;clear hdr hri;by_cases h32:i=32;rw[if_pos h32]at he2;have h':=h.o;rw[<- he2]at h';replace h':=hid h';have k1:(i:Int)=32:=amM;have g1':(32:Int)<(d.length:Int):=amM;clear h32 he2;refine wk ?_;exact ab rfl h'.o;rw[if_neg h32]at he2;have k1:¬(i:Int)=32:=amM;by_cases hr0:r=[];rw[if_pos hr0]at he2;subst hr0;have h':=h.o;rw[<- he2]at h';replace h':=hid h';clear h32 he2;refine wk ?_;exact ab rfl h'.o;rw[if_neg hr0]at he2;have k2:¬(r.length:Int)=0:=(by have:=akh.2 hr0;omega);have herr:∀e:Int,du [] r=e->e≠0->K (.int .i64 e) L:=λe a1 a2=>by rw[if_pos (by rw[a1];exact a2),a1]at he2;rw[he2];exact h.o
  replace herr:=hid herr;replace he2:=hid he2;clear h32;refine wk ?_;refine aq (λn T' L'=>∃(k:Nat) (Y:List Blk),n=r.length-k/\k<=r.length/\k<=8/\Hid (du (r.take k) (r.drop k)=du [] r/\∀a∈r.take k,a.1.length<=32)/\T'=[(23,.int .i64 (k:Int)),(22,.int .i64 r.length),(21,ah r),(4,ah r),(9,.int .i64 (i:Int)),(8,.int .i64 d.length),(7,.sl (d.map ah) d.length cap)]/\L'=L++(X++Y)) amQ ⟨0,[],rfl,aju _,amM,hid ⟨rfl,amN⟩,rfl,amN⟩ ?_;rintro _ _ _ ⟨k,Y,rfl,hk,hk8,hrow,rfl,rfl⟩;by_cases hkl:k<r.length
  .have g3:(k:Int)<(r.length:Int):=amM;have g4:=ajn k amM;have e3:=fL hkl;have e4:k*2+2<=(aL r).length:=(by rw[cJ];omega);obtain⟨⟨ty,va⟩,ha⟩:∃a,r.getD k ([],[])=a:=⟨_,rfl⟩;have hdk:r.drop k=(ty,va)::r.drop (k+1):=(by rw[ajY hkl,<- ha];simp[hkl]);have htk:r.take (k+1)=r.take k++[(ty,va)]:=(by rw[ajN hkl,<- ha];simp[hkl]);rw[ha]at e3;simp only[mu]at e3;obtain⟨hr1,hr2⟩:=hrow.o;rw[hdk,du]at hr1;have hlk:(r.take k).length=k:=(by simp;omega);rw[hlk]at hr1;clear hdk ha hrow;have e5:(aL r).take (k*2)=aL (r.take k):=R3;have g5:(k:Int)<=(r.length:Int):=amM;replace hr1:=hid hr1;replace hr2:=hid hr2;replace htk:=hid htk;have e6:=hid hlk;clear hlk
   repeat' first
    |refine cA ?_
    | (first|refine bG amO ?_|refine ba amO ?_|refine be ?_|refine dN ?_|refine cD (fun _=>?_)|refine aU ?_|refine bI ?_)
      refine sm ?_
    | (first|refine bC amO ?_|refine bz ?_|refine bd ?_|refine bH ?_|refine cI (aT ?_))
      refine sl ?_
    |exact cE
    |first|apply cF|apply bD|apply cG|apply bE|apply cH|apply bF
    |refine bh ?_
    |refine bc ?_
    |first|refine bf rfl ?_|refine bg rfl ?_|refine aI rfl ?_ ?_|refine bm rfl (λ_=>?_) (λ_=>?_)|refine bj rfl (λ_=>?_) (λ_=>?_)
    |((first|refine aG (λ_=>?_) (λ_=>?_)|refine aS (λ_=>?_) (λ_=>?_))<;>try refine sm ?_)
    |refine And.intro trivial ?_
    |refine And.intro amM ?_
    |refine br rfl (λ_=>?_) (λ_=>?_)
    |refine And.intro ?_ ?_
   rename_i h8;have h':=herr.o 9 (by rw[<- hr1.o,if_pos amM]) (by decide);exact ab rfl h';rename_i h8;have hr3:=hr1.o;rw[if_neg amM]at hr3;refine ZN ?_;cases hty:ix ty with
   | false =>
     have h':=hid (herr.o 20 (by rw[<- hr3,if_pos hty]) (by decide));clear hr3;refine amU ?_;exact ab rfl h'.o
   | true =>
     rw[if_neg (by rw[hty];simp)]at hr3;replace hr3:=hid hr3;have htl:=tL hty;refine amU ?_;refine bi (ahL e6.o amM hr2.o htl ⟨rfl,rfl⟩) ?_;cases hha:jB (r.take k) ty with
     | true =>
       have h':=hid (herr.o 21 (by rw[<- hr3.o,if_pos hha]) (by decide));refine amU ?_;exact ab rfl h'.o
     | false =>
       have hr4:=hr3.o;rw[if_neg (by rw[hha];simp),<- htk.o]at hr4;replace hr4:=hid hr4;clear hr3;refine amU ?_;refine amR amM amQ ⟨k+1,Y++[.cells [.str ty,.str va]],rfl,hkl,amM,hid ⟨hr4.o,λa ha=>?_⟩,rfl,amN⟩;rw[htk.o]at ha;rcases ajx.1 ha with h|h
       .exact hr2.o a h
       .rw[ajI.1 h];exact htl
  have hke:k=r.length:=amM;subst hke;have g3:¬(r.length:Int)<(r.length:Int):=amM;have hz:=hrow.o.1;rw[ake,du]at hz;have he3:=he2.o;rw[<- hz]at he3;simp only[ne_eq,not_true_eq_false,if_false]at he3;replace he3:=hid he3;clear hz;refine wk ?_;exact amR amM amQ ⟨i+1,X++Y,rfl,hlt,amM,hid he3.o,rfl,rfl⟩
 have hke:i=d.length:=amM;subst hke;have g1:¬(d.length:Int)<(d.length:Int):=amM;have h':=h.o;rw[<- he.o,ake,il]at h';replace h':=hid h';refine wk ?_;exact ab rfl h'.o
end Go.Proofs.YtdnfjhflkkpokaaGreatDoor.Av
namespace Go.Proofs
open Go.Shelf
def Tryz.lays190_ren:Go.Shelf.Ren:=⟨λ|190=>132|125=>100|258=>187|128=>154|129=>155|302=>210|303=>211|304=>212|305=>213|306=>214|307=>215|308=>216|309=>217|310=>218|333=>234|329=>192|330=>193|334=>235|335=>236|336=>156|344=>247|n=>n,λ|31=>50|9=>9|3=>3|46=>185|0=>0|51=>229|53=>231|4=>4|183=>223|182=>222|131=>161|5=>5|218=>273|222=>180|228=>292|229=>293|n=>n,λ|n=>n⟩
theorem Tryz.lays190:Go.Proofs.Lays.n190 Tryz.prog Tryz.lays190_ren:={
 mixed:=by kernel_rfl
 f125:=Tryz.func100.trans (congrArg some (by kernel_rfl))
 f128:=Tryz.func154.trans (congrArg some (by kernel_rfl))
 f129:=Tryz.func155.trans (congrArg some (by kernel_rfl))
 f190:=Tryz.func132.trans (congrArg some (by kernel_rfl))
 f258:=Tryz.func187.trans (congrArg some (by kernel_rfl))
 f302:=Tryz.func210.trans (congrArg some (by kernel_rfl))
 f303:=Tryz.func211.trans (congrArg some (by kernel_rfl))
 f304:=Tryz.func212.trans (congrArg some (by kernel_rfl))
 f305:=Tryz.func213.trans (congrArg some (by kernel_rfl))
 f306:=Tryz.func214.trans (congrArg some (by kernel_rfl))
 f307:=Tryz.func215.trans (congrArg some (by kernel_rfl))
 f308:=Tryz.func216.trans (congrArg some (by kernel_rfl))
 f309:=Tryz.func217.trans (congrArg some (by kernel_rfl))
 f310:=Tryz.func218.trans (congrArg some (by kernel_rfl))
 f329:=Tryz.func192.trans (congrArg some (by kernel_rfl))
 f330:=Tryz.func193.trans (congrArg some (by kernel_rfl))
 f333:=Tryz.func234.trans (congrArg some (by kernel_rfl))
 f334:=Tryz.func235.trans (congrArg some (by kernel_rfl))
 f335:=Tryz.func236.trans (congrArg some (by kernel_rfl))
 f336:=Tryz.func156.trans (congrArg some (by kernel_rfl))
 f344:=Tryz.func247.trans (congrArg some (by kernel_rfl))
 t0:=Tryz.underlying0
 a0:=Tryz.isAgg0
 z0:=Tryz.sizeOf0
 v0:=Tryz.zeroValue0
 t3:=Tryz.underlying3
 a3:=Tryz.isAgg3
 z3:=Tryz.sizeOf3
 v3:=Tryz.zeroValue3
 t4:=Tryz.underlying4
 a4:=Tryz.isAgg4
 z4:=Tryz.sizeOf4
 v4:=Tryz.zeroValue4
 t5:=Tryz.underlying5
 a5:=Tryz.isAgg5
 z5:=Tryz.sizeOf5
 v5:=Tryz.zeroValue5
 t9:=Tryz.underlying9
 a9:=Tryz.isAgg9
 z9:=Tryz.sizeOf9
 v9:=Tryz.zeroValue9
 t31:=Tryz.underlying50
 a31:=Tryz.isAgg50
 z31:=Tryz.sizeOf50
 v31:=Tryz.zeroValue50
 t46:=Tryz.underlying185
 a46:=Tryz.isAgg185
 z46:=Tryz.sizeOf185
 v46:=Tryz.zeroValue185
 t51:=Tryz.underlying229
 a51:=Tryz.isAgg229
 z51:=Tryz.sizeOf229
 v51:=Tryz.zeroValue229
 t53:=Tryz.underlying231
 a53:=Tryz.isAgg231
 z53:=Tryz.sizeOf231
 v53:=Tryz.zeroValue231
 t131:=Tryz.underlying161
 a131:=Tryz.isAgg161
 z131:=Tryz.sizeOf161
 v131:=Tryz.zeroValue161
 t182:=Tryz.underlying222
 a182:=Tryz.isAgg222
 z182:=Tryz.sizeOf222
 v182:=Tryz.zeroValue222
 t183:=Tryz.underlying223
 a183:=Tryz.isAgg223
 z183:=Tryz.sizeOf223
 v183:=Tryz.zeroValue223
 t218:=Tryz.underlying273
 a218:=Tryz.isAgg273
 z218:=Tryz.sizeOf273
 v218:=Tryz.zeroValue273
 t222:=Tryz.underlying180
 a222:=Tryz.isAgg180
 z222:=Tryz.sizeOf180
 v222:=Tryz.zeroValue180
 t228:=Tryz.underlying292
 a228:=Tryz.isAgg292
 z228:=Tryz.sizeOf292
 v228:=Tryz.zeroValue292
 t229:=Tryz.underlying293
 a229:=Tryz.isAgg293
 z229:=Tryz.sizeOf293
 v229:=Tryz.zeroValue293}
open Go.Sort Go.RowKit in
theorem Tryz.slices_Sort_string(blk off cap:Nat)(ss:List (List UInt8))(w:World)(hH:Holds encStr w blk off ss.toArray)(hblk:blk<w.heap.size)(hsz:ss.length<4611686018427387904):
 Calls Tryz.prog 132 #[.slice (some ⟨blk,off,none⟩) ss.length cap] w λe w' =>
  e=.returned (.tuple #[])/\∃n os,w'=grow (putRow encStr (Sort.ahead w n) blk off (ss.mergeSort λx y=>decide (x<=y)).toArray) os:=Any.slices_Sort_string Tryz.lays190 blk off cap ss w hH hblk hsz
open Go.RowKit Go.Sort in
theorem Tryz.slices_Sort_string_none(p:Option Addr)(cap:Nat)(w:World):
 Calls Tryz.prog 132 #[.slice p 0 cap] w λe w'=>e=.returned (.tuple #[])/\w'=w:=Any.slices_Sort_string_none Tryz.lays190 p cap w
end Go.Proofs
namespace Go.Proofs.YtdnfjhflkkpokaaGreatDoor.Av
open Go Go.Sort
variable {L:List Blk}{K:ajq}
abbrev aC(xs:List (List UInt8)):List AV:=xs.map AV.str
theorem Q3{xs:List (List UInt8)}{sep:List UInt8}{cap:Option Nat}(hn:xs.length<=1100000)(hl:(Lib.join xs sep).length<=140737488355328)(h:K (.str (Lib.join xs sep)) L):
  ajp 126 [.sl (aC xs) xs.length cap,.str sep] L K :=
 kw Tryz.func126 rfl amO (λw0 S0 E w vs hR hv=>by
  simp only[VRL,VR]at hv;obtain⟨_,_,rfl,⟨p,c,rfl,hle,_,hp⟩,_,_,rfl,rfl,rfl⟩:=hv;by_cases hx:xs=[];subst hx;exact(Tryz.strings_Join_none p c ⟨⟨sep⟩⟩ w).mono λe w' ⟨he,hw⟩=>⟨_,he,by simp[VR,Lib.join],by subst hw;exact VZ.refl _⟩
  rcases hp with⟨e0,_⟩|⟨b,o,rfl,hcells⟩;exact absurd (aj4.1 e0) hx;have hmem:∀(j:Nat) x,(xs.map λs=>(⟨⟨s⟩⟩:ByteArray))[j]?=some x->w.cell? ⟨b,o+j,none⟩=some (.string x):=λj x hj=>by rw[akr]at hj;rcases hxs:xs[j]? with _|s;rw[hxs]at hj;cases hj;rw[hxs]at hj;simp only[ajQ,ajt]at hj;subst hj;obtain⟨v,g1,g2⟩:=hcells.get (i:=j) (a:=.str s) (by rw[akr,hxs];rfl);simp only[VR]at g2;subst g2;exact hR.mem _ _ _ g1
  have hb:b<w.heap.size:=by have hx0:0<xs.length:=akh.2 hx;have h0:=hmem 0 ⟨⟨xs[0]⟩⟩ (by rw[akr,ajF hx0];rfl);rcases ajT b w.heap.size with g|g;exact g;simp[World.cell?,Array.getElem?_eq_none g]at h0
  have hmm:(xs.map λs=>(⟨⟨s⟩⟩:ByteArray)).map (·.data.toList)=xs:=(by rw[ajS];exact List.map_id'' (λ_=>rfl) xs);have key:=Tryz.strings_Join b o c (xs.map λs=>(⟨⟨s⟩⟩:ByteArray)) ⟨⟨sep⟩⟩ w hmem hb (by rw[ajR];omega) (by rw[ajR];exact hle) (by rw[hmm];exact hl);rw[hmm]at key;simp only[ajR]at key;exact key.mono λe w' ⟨he,hbel⟩=>⟨_,he,by simp[VR],⟨λb hb=>hbel.block b hb,hbel.size,hbel.os,hbel.tape,hbel.output⟩⟩) h
theorem Rel.putStrs{w0:World}{S0:SB}{E:Env}{L:List Blk}{w:World}(h:Rel w0 S0 E L w){i:Nat}{xs d:List (List UInt8)}{rest:List AV}{c:Loc}(hi:L[i]?=some (.cells (aC xs++rest)))(hc:E.loc i=some c)(hd:d.length=xs.length)(q:Nat):
  Rel w0 S0 E (L.set i (.cells (aC d++rest))) (putRow encStr (Sort.ahead w q) c.blk c.off d.toArray):=by
 obtain⟨c',cs,ty,fr,h1,h2,h3,h4,h5,h6⟩:=h.blk i _ hi;rw[hc]at h1;cases h1;have hlt:c.blk<w.heap.size:=(akf.1 h2).1;have e1:(putRow encStr (Sort.ahead w q) c.blk c.off d.toArray).heap[c.blk]?=some (.cells (putCells encStr c.off d.toArray cs) ty fr):=by simp[putRow,mapBlock,Sort.ahead,alu,h2,onCells]
 have hlen:(aC xs++rest).length=xs.length+rest.length:=amN;refine h.turn (k':=.cells (aC d++rest)) hi rfl hc amN (λb hb=>?_) rfl rfl rfl ⟨c,_,ty,fr,hc,e1,by simp[putCells,h3],?_,λj a ha=>?_,h6⟩ (λ_ _ e=>by cases e);have:c.blk≠b:=λe=>hb e.symm
 simp[putRow,mapBlock,Sort.ahead,alu,this];rw[hlen]at h4;simp only[ajA,ajR,hd];omega;rw[hlen]at h4;have hj:j<d.length+rest.length:=by have:=(ajr.1 ha).1;simpa using this
 have hcs:c.off+j<cs.size:=amM;have ep:(putCells encStr c.off d.toArray cs)[c.off+j]?=some (if c.off<=c.off+j/\c.off+j<c.off+d.length then encStr (d.toArray[c.off+j-c.off]!)else cs[c.off+j]):=by simp[putCells,hcs]
 by_cases hjd:j<d.length;have ea:a=.str d[j]:=by rw[ajw (by simpa using hjd)]at ha;simpa[hjd]using ha.symm
 subst ea;refine⟨_,ep,?_⟩;rw[if_pos amM,show c.off+j-c.off=j by omega];simp[VR,encStr,hjd];have ha':(aC xs++rest)[j]?=some a:=by rw[ajG (by simp;omega)]at ha⊢;simpa[hd]using ha
 obtain⟨v,g1,g2⟩:=h5 j a ha';refine⟨v,?_,g2⟩;rw[ep,if_neg amM,<- g1];simp[hcs]
theorem Us{w0:World}{S0:SB}{E:Env}{L:List Blk}{w:World}(h:Rel w0 S0 E L w){i:Nat}{xs:List (List UInt8)}{rest:List AV}{c:Loc}(hi:L[i]?=some (.cells (aC xs++rest)))(hc:E.loc i=some c):
  Holds encStr w c.blk c.off xs.toArray/\c.blk<w.heap.size:=by
 obtain⟨c',cs,ty,fr,h1,h2,h3,h4,h5,h6⟩:=h.blk i _ hi;rw[hc]at h1;cases h1;refine⟨λj hj=>?_,(akf.1 h2).1⟩;have hj':j<xs.length:=by simpa using hj
 obtain⟨v,g1,g2⟩:=h5 j (.str xs[j]) (by rw[ajw (by simpa using hj')];simp[hj']);simp only[VR]at g2;subst g2;refine⟨by simp[World.cell?,encStr,h2,g1,hj'],?_⟩;have h7:=h6 (c.off+j) amM (by simp only[ajA,ajR]at h4;omega);simp only[World.frozen?,h2];obtain⟨f1,f2⟩:=fr;simp only at h7;simp only[al7,decide_eq_false_iff_not];omega
theorem iu{P:Program}{f:FuncId}{fn:Func}(hf:P.funcs[f]?=some fn)(hb:fn.body.isSome=true)(hn:(fn.name == "runtime.NumGoroutine")=false)(args:Array Value)(w:World):(callFunc f args).run P w=.ok (.enter f args) w:=by
 simp only[callFunc,ajB,run_program,ajC,hf,hn];cases h:fn.body with
 |none=>simp[h]at hb
 |some c=>simp
def dY(xs:List (List UInt8)):List (List UInt8):=xs.mergeSort λx y=>decide (x<=y)
theorem afH{xs:List (List UInt8)}{i:Nat}{cp:Option Nat}{rest:List AV}(hx:xs≠[])(hn:xs.length<=1100000)(hL:L[i]?=some (.cells (aC xs++rest)))(h:K (.tup []) (L.set i (.cells (aC (dY xs)++rest)))):
  ajp 132 [.lsl i 0 xs.length cp 1] L K:=λw0 S0 E w vs hR hv=>by
 simp only[VRL,VR]at hv;obtain⟨_,_,rfl,⟨c,rc,d,hc,rfl,hd,hle,_,_⟩,rfl⟩:=hv;have hpos:0<xs.length:=akh.2 hx;have hd':d=c.off:=by have:=hd amM;omega
 subst hd';obtain⟨hH,hlt⟩:=Us hR hL hc;refine .inl ⟨iu Tryz.func132 rfl amO _ _,(Tryz.slices_Sort_string c.blk c.off rc xs w hH hlt amM).mono ?_⟩;rintro e w' ⟨rfl,q,os,rfl⟩;have r1:=hR.putStrs hL hc (d:=dY xs) (by simp[dY]) q;refine⟨E,_,_,_,rfl,.refl E,h,by simp[VR,VRL],r1.grown ?_⟩;exact⟨λb hb=>amn hb,by simp[grow],rfl,rfl,rfl⟩
theorem ady{cap:Option Nat}(h:K (.tup []) L):ajp 132 [.sl [] 0 cap] L K :=
 kw Tryz.func132 rfl amO (λw0 S0 E w vs hR hv=>by simp only[VRL,VR]at hv;obtain⟨_,_,rfl,⟨p,c,rfl,_⟩,rfl⟩:=hv;exact(Tryz.slices_Sort_string_none p c w).mono λe w' ⟨he,hw⟩=>⟨_,he,by simp[VR,VRL],by subst hw;exact VZ.refl _⟩) h
theorem agl{xs:List (List UInt8)}{sep:List UInt8}{i:Nat}{cp:Option Nat}(hx:xs≠[])(hn:xs.length<=1100000)(hl:(Lib.join xs sep).length<=140737488355328)(hL:L[i]?=some (.cells (aC xs)))(h:K (.str (Lib.join xs sep)) L):
  ajp 126 [.lsl i 0 xs.length cp 1,.str sep] L K:=λw0 S0 E w vs hR hv=>by
 simp only[VRL,VR]at hv;obtain⟨_,_,rfl,⟨c,rc,d,hc,rfl,hd,hle,_,_⟩,_,_,rfl,rfl,rfl⟩:=hv;have hpos:0<xs.length:=akh.2 hx;have hd':d=c.off:=by have:=hd amM;omega
 subst hd';obtain⟨hH,hlt⟩:=Us (rest:=[]) hR (by simpa using hL) hc;have hmem:∀(j:Nat) x,(xs.map λs=>(⟨⟨s⟩⟩:ByteArray))[j]?=some x->w.cell? ⟨c.blk,c.off+j,none⟩=some (.string x):=λj x hj=>by have hjl:j<xs.length:=(by have:=(ajr.1 hj).1;simpa using this);have e:=(hH j (by simpa using hjl)).1;rw[akr,ajF hjl]at hj;simp only[ajQ,ajt]at hj;subst hj;rw[e];simp[encStr,hjl]
 have hmm:(xs.map λs=>(⟨⟨s⟩⟩:ByteArray)).map (·.data.toList)=xs:=by rw[ajS];exact List.map_id'' (λ_=>rfl) xs
 have key:=Tryz.strings_Join c.blk c.off rc (xs.map λs=>(⟨⟨s⟩⟩:ByteArray)) ⟨⟨sep⟩⟩ w hmem hlt (by rw[ajR];omega) (by rw[ajR];exact hle) (by rw[hmm];exact hl);rw[hmm]at key;simp only[ajR]at key;refine .inl ⟨iu Tryz.func126 rfl amO _ _,key.mono ?_⟩;rintro e w' ⟨rfl,hbel⟩;exact⟨E,_,_,_,rfl,.refl E,h,by simp[VR],hR.grown ⟨λb hb=>hbel.block b hb,hbel.size,hbel.os,hbel.tape,hbel.output⟩⟩
end Go.Proofs.YtdnfjhflkkpokaaGreatDoor.Av
set_option maxRecDepth 100000
namespace Go.Proofs.YtdnfjhflkkpokaaGreatDoor.Av
open Go
def Si:LSO:=[Aw 4]
def Sh:LSO:=[Ak 5]
def Sg:LSO:=[Aa 11 0,Af 12 11,Ad 13 0]
def Sf:LSO:=[Al 14 13 12]
def Se:LSO:=[Am 15 1 11 13,Ab 16 1 15,Aa 7 16]
def Sd:LSO:=[Ak 8]
def Sc:LSO:=[Aa 17 7,Af 18 17,Ad 19 0]
def Sb:LSO:=[Al 20 19 18]
def Sa:LSO:=[Am 21 2 17 19,Ar 22 2 21,Bj 10,An 2 10 22]
def R9:LSO:=[Aa 23 1]
def PX:List (aw×Kd):=
 [A0 24 0 10,A3 25 1 24 0 0,AY 26 46 25 0 0,A0 27 1 10,A3 28 1 27 0 0]
def Nf:List aw :=
 [⟨(some 29),(.call 104 [(tm 28)]),none⟩,⟨(some 30),(.build [(.str []),(.str [])] [(0,(1,(tm 26))),(1,(1,(tm 29)))]),none⟩,⟨none,(.store 2 (tm 10) (tm 30)),none⟩]
def PW:List (aw×Kd):=
 [AC 31 8,A0 32 0 10,A3 33 1 32 0 0,od 34 (.bin .add (tm 33) (.av (.str [61]))) .pure,A0 35 1 10,A3 36 1 35 0 0,AY 37 131 36 0 0,od 38 (.bin .add (tm 34) (tm 37)) .pure,
 od 39 (.bslice false 1 1 [(.str [])] [(0,(1,(tm 38)))]) (.read 0 0)]
def Nc:List aw :=
 [⟨(some 40),(.app 2 1 16 [(.str [])] (tm 31) (tm 39)),none⟩,⟨(some 8),(.mv (tm 40)),none⟩]
def PV:LSO:=[Ah 41 19 1,Aa 19 41]
def PU:LSO:=[Aa 42 1]
def PT:LSO:=[Aa 43 8,Ai 44 132 43]
def PS:LSO:=[Aa 45 5,Aa 46 8,o1 47 (.call 126 [(tm 46),(.av (.str [43]))]),By 48 47,BE 49 45 48,Aa 5 49]
def PR:LSO:=[Ah 50 13 1,Aa 13 50]
def PQ:LSO:=[Aa 51 5,o1 52 (.call 126 [(tm 51),(.av (.str [44]))]),Aa 4 52]
def xI:aQ:=⟨53,(amF Si [] (amF Sh [] (.seq (amF Sg [] (amI 0 (amF Sf [] (.seq (amJ 14 0) (.seq (.block 1 (amF Se Cm (amF Sd [] (.seq (amF Sc [] (amI 2 (amF Sb [] (.seq (amJ 20 2) (.seq (.block 3 (amF Sa Cm (.seq (amF R9 [] (amG 23 (.dregM PX Nf CB) .skip)) (.dregM PW Nc CD)))) (.sreg PV Cl)))))) (.seq (amF PU [] (amG 42 (.sreg PT [false,false]) .skip)) (.sreg PS Cq)))))) (.sreg PR Cl)))))) (amF PQ Cm .ret)))),[(.tmp 4)]⟩
attribute [push_cast] Si Sh Sg Sf Se Sd Sc Sb Sa R9 PX Nf PW Nc PV PU PT PS PR PQ
theorem Ri:aR Tryz.prog (λr i=>if r=11/\i=9 then 2 else 1) 85=some xI.raw:=amO
attribute [push_cast] xI
variable {L:List Blk}{K:ajq}
set_option maxHeartbeats 8000000
set_option maxRecDepth 100000
def avT(key:Bool)(a:Ava):List UInt8:=if key=true then ag a.1++[61]++fN (bT a.2)else a.1++[61]++fN a.2
def cP(key:Bool)(r:Rdn):List UInt8:=Lib.join (if key=true then dY (r.map (avT key))else r.map (avT key)) [43]
def aP(key:Bool)(d:List Rdn):List UInt8:=Lib.join (d.map (cP key)) [44]
theorem OL(n:Nat):∀(s:List UInt8) (i:Nat),(wrL n i s).length<=3*s.length
 |[],_=>by simp[wrL]
 |c::s,i=>by have h1:=OL n s (i+1);have h2:=afw i n c;simp only[wrL,ajA,ajz];omega
theorem abM(l:List (List UInt8)):AV.frzL (aC l)=aC l:=by rw[AV.frzL_eq,ajS];rfl
theorem abl{xs:List (List UInt8)}{sep:List UInt8}{i n:Nat}(hx:n=xs.length)(hn:xs.length<=1100000)(hl:(Lib.join xs sep).length<=140737488355328)(h:K (.str (Lib.join xs sep)) L):
  ajp 126 [.gsl (aC xs) n i 1,.str sep] L K:=by
 subst hx;exact gZ (by simpa only[AV.frzL,AV.frz,abM]using Q3 (cap:=none) hn hl h)
theorem YX{xs:List (List UInt8)}{sep:List UInt8}{i n:Nat}{cp:Option Nat}(he:n=xs.length)(hx:xs≠[])(hn:xs.length<=1100000)(hl:(Lib.join xs sep).length<=140737488355328)(hL:L[i]?=some (.cells (aC xs)))(h:K (.str (Lib.join xs sep)) L):
  ajp 126 [.lsl i 0 n cp 1,.str sep] L K:=by
 subst he;exact agl hx hn hl hL h
theorem afF{d:List Rdn}{cap:Option Nat}(hn:d.length<=1000)(hr:∀r∈d,r.length<=1000/\∀a∈r,a.1.length<=10000/\a.2.length<=10000)(hj1:∀r∈d,(cP false r).length<=140737488355328)(hj2:(aP false d).length<=140737488355328)(h:K (.str (aP false d)) L):
  ajp 85 [.sl (d.map ah) d.length cap,.bool false] L K:=by
 replace h:=hid h;have hat:=hid (λk=>@kc d k);replace hr:=hid hr;replace hj1:=hid hj1;have s4:∀(W:List Blk) (j:Nat) (A:Blk),L.length<=j->(L++W).set j A=L++W.set (j-L.length) A:=λW j A hj=>ajZ _ _ hj
 replace s4:=hid s4;refine ajo Ri ?_;refine bK (l:=[]) (n:=0) 5 1 rfl (ajX 1).symm ?_;refine aq (λn T' L'=>∃(i:Nat) (all:List (List UInt8)) (Z:List Blk),n=d.length-i/\i<=d.length/\Hid (all=(d.take i).map (cP false))/\L'[L.length]?=some (.spare i 1)/\T'=[(13,.int .i64 (i:Int)),(12,.int .i64 d.length),(11,.sl (d.map ah) d.length cap),(5,.gsl (aC all) i L.length 1),(1,.bool false)]/\L'=L++Z) amQ ⟨0,[],[.spare 0 1],rfl,aju _,hid rfl,amN,rfl,rfl⟩ ?_;rintro _ _ _ ⟨i,all,X,rfl,hi,hall,ho,rfl,rfl⟩;by_cases hlt:i<d.length
 .have g1:(i:Int)<(d.length:Int):=amM;have g2:=ajn i amM;have e2:=hat.o i hlt;have hrm:d.getD i []∈d:=(by rw[ajO,ajF hlt];exact aky _);have hrl:=hr.o _ hrm;have hjr:=hj1.o _ hrm;obtain⟨r,hri⟩:=ajl (d.getD i []);have htk:d.take (i+1)=d.take i++[r]:=(by rw[ajN hlt,<- hri];simp[hlt]);rw[hri]at e2 hrl hjr;clear hri hrm;obtain⟨hrl1,hrl2⟩:=hrl;replace hrl2:=hid hrl2;replace htk:=hid htk;have hX:=(ajr.1 ho).1;rw[ajA]at hX;replace hX:=hid hX;refine wk ?_;refine aq (λn T' L'=>∃(k:Nat) (v:AV) (Z:List Blk),n=r.length-k/\k<=r.length/\X.length<=Z.length/\L'[L.length]?=some (.spare i 1)/\Hid ((v=.sl [] 0 (some 0)/\k=0)\/∃j,(0<k/\L.length<j)/\v=.lsl j 0 k none 1/\L'[j]?=some (.cells (aC ((r.take k).map (avT false)))))/\T'=[(19,.int .i64 (k:Int)),(18,.int .i64 r.length),(17,ah r),(8,v),(13,.int .i64 (i:Int)),(12,.int .i64 d.length),(11,.sl (d.map ah) d.length cap),(5,.gsl (aC all) i L.length 1),(1,.bool false)]/\L'=L++Z) amQ ⟨0,_,X,rfl,aju _,ajs _,ho,hid (.inl ⟨rfl,rfl⟩),rfl,rfl⟩ ?_;rintro _ _ _ ⟨k,v,Z,rfl,hk,hXZ,ho2,hv,rfl,rfl⟩;replace hXZ:=hid hXZ;by_cases hkl:k<r.length
  .have g3:(k:Int)<(r.length:Int):=amM;have g4:=ajn k amM;have e3:=fL hkl;have e4:k*2+2<=(aL r).length:=(by rw[cJ];omega);obtain⟨⟨ty,va⟩,ha⟩:∃a,r.getD k ([],[])=a:=⟨_,rfl⟩;have ham:(ty,va)∈r:=(by rw[<- ha];simp[hkl]);have htk2:(r.take (k+1)).map (avT false)=(r.take k).map (avT false)++[ty++61::fN va]:=by rw[ajN hkl];have:r[k]=(ty,va):=(by rw[<- ha];simp[hkl]);rw[this];simp[avT]
   rw[ha]at e3;simp only[mu]at e3;have hva:=hrl2.o _ ham;simp only at hva;have hva':va.length<=100000:=amM;have hwl:=OL va.length va 0;have b1:(ty.length:Int)+1<=9223372036854775807:=amM;have b2:(ty.length:Int)+1+((fN va).length:Int)<=9223372036854775807:=(by unfold fN;omega);clear hwl ha ham hva;replace htk2:=hid htk2;have q1:(k+1)*16<=140737488355328:=amM;have q2:k+1<=140737488355328:=amM;have q3:k<=140737488355327:=amM;rcases hv.o with⟨rfl,hk0⟩|⟨j,⟨hk1,hBj⟩,rfl,hj⟩;replace hk0:=hid hk0;have kk1:=@amT _ _ _ _ (gx hva');refine wk ?_;refine amR amM (CutL (b:=?_)) ⟨k+1,.lsl (L.length+(Z.length+1)) 0 1 none 1,_,rfl,hkl,?_,?_,hid (.inr ⟨L.length+(Z.length+1),⟨amM,amM⟩,by rw[hk0.o],?_⟩),rfl,rfl⟩;have:=hXZ.o;simp;omega;have:=hXZ.o;simp;omega;rw[<- ajD,ajw (ajr.1 ho2).1];exact ho2;rw[oK,oK,htk2.o,hk0.o];rfl
   .obtain⟨cur,hcur⟩:=ajl ((r.take k).map (avT false));have hcl:cur.length=k:=(by rw[<- hcur];simp;omega);rw[hcur]at hj;have f1:(L++(Z++[Blk.cells [.str ty,.str va]]))[j]?=some (.cells (aC cur)):=by rw[<- ajD,ajw (ajr.1 hj).1];exact hj
    have f2:(L++(Z++[Blk.cells [.str ty,.str va]])).set j .dead=L++(Z++[Blk.cells [.str ty,.str va]]).set (j-L.length) .dead:=s4.o _ _ _ amM;have f3:k<=(aC cur).length:=(by simp[hcl]);have f4:(aC cur).take k=aC cur:=aj3 (by simp[hcl]);replace hcur:=hid hcur;replace hcl:=hid hcl;have hjL:=hid (show j≠L.length by omega);have f2':=hid f2
    repeat' first
     |refine cA ?_
     | (first|refine bG amO ?_|refine ba amO ?_|refine be ?_|refine dN ?_|refine cD (fun _=>?_)|refine aU ?_|refine bI ?_|refine gx hva' ?_|refine bQ (gx hva' ⟨rfl,rfl⟩) (gx hva' ⟨rfl,rfl⟩) ?_|refine bi (gx hva' ⟨rfl,rfl⟩) ?_)
       refine sm ?_
     | (first|refine bC amO ?_|refine bz ?_|refine bd ?_|refine bH ?_|refine cI (aT ?_))
       refine sl ?_
     |exact cE
     |first|apply cF|apply bD|apply cG|apply bE|apply cH|apply bF
     |refine bh ?_
     |refine bc ?_
     |first|refine bf rfl ?_|refine bg rfl ?_|refine aI rfl ?_ ?_|refine bm rfl (λ_=>?_) (λ_=>?_)|refine bj rfl (λ_=>?_) (λ_=>?_)
     |((first|refine aG (λ_=>?_) (λ_=>?_)|refine aS (λ_=>?_) (λ_=>?_))<;>try refine sm ?_)
     |refine And.intro trivial ?_
     |refine And.intro amM ?_
     |refine br rfl (λ_=>?_) (λ_=>?_)
     |refine And.intro ?_ ?_
    rw[hcl.o];exact ajs _;have hA:((Z++[Blk.cells [.str ty,.str va]]).set (j-L.length) .dead).length=Z.length+1:=amN;refine amR amM (CutL (b:=?_)) ⟨k+1,.lsl (L.length+(Z.length+1)) 0 (k+1) none 1,_,rfl,hkl,?_,?_,hid (.inr ⟨L.length+(Z.length+1),⟨amM,amM⟩,rfl,?_⟩),rfl,rfl⟩;have:=hXZ.o;simp;omega;have:=hXZ.o;simp;omega;rw[<- ajD,<- f2'.o,ajw amN,ajJ hjL.o,<- ajD,ajw (ajr.1 ho2).1];exact ho2;rw[oK,<- hA,XO,htk2.o,hcur.o];simp
  have hke:k=r.length:=amM;subst hke;have g3:¬(r.length:Int)<(r.length:Int):=amM;have q4:(i+1)*16<=140737488355328:=amM;have q5:i+1<=140737488355328:=amM;have hrow:cP false r=Lib.join (r.map (avT false)) [43]:=(by simp[cP]);rw[hrow]at hjr;have htk3:(d.take (i+1)).map (cP false)=all++[Lib.join (r.map (avT false)) [43]]:=by rw[htk.o,ajV,<- hall.o,<- hrow];rfl
  have f0:(L++Z).set L.length (.spare (i+1) 1)=L++Z.set 0 (.spare (i+1) 1):=(by rw[s4.o _ _ _ (ajs _),ale]);have f1:(L++Z.set 0 (.spare (i+1) 1))[L.length]?=some (.spare (i+1) 1):=by rw[<- f0,aj1,if_pos rfl,if_pos (ajr.1 ho2).1]
  replace hrow:=hid hrow;replace htk3:=hid htk3;replace f1:=hid f1;rcases hv.o with⟨rfl,hk0⟩|⟨j,⟨hk1,hBj⟩,rfl,hj⟩;have hr0:r=[]:=aj4.1 hk0;replace hk0:=hid hk0;refine wk ?_;refine Q3 (xs:=[]) amN (by simp[Lib.join]) ?_;refine amU ?_;rw[show aC all++[AV.str (Lib.join [] [43])]=aC (all++[Lib.join [] [43]])by simp];exact amR amM (CutL (b:=by have:=hX.o;have h0:=(ajr.1 ho2).1;simp at h0⊢;omega)) ⟨i+1,all++[Lib.join [] [43]],_,rfl,hlt,hid (by rw[htk3.o,hr0];rfl),f1.o,rfl,rfl⟩;rw[ajL]at hj;by_cases hr0:r=[];rw[hr0]at hk1;cases hk1;refine wk ?_;refine YX (xs:=r.map (avT false)) amN (by simpa using hr0) (by simp;omega) hjr (by simpa using hj) ?_;refine amU ?_;rw[show aC all++[AV.str (Lib.join (r.map (avT false)) [43])]=aC (all++[Lib.join (r.map (avT false)) [43]])by simp];exact amR amM (CutL (b:=by have h0:=(ajr.1 ho2).1;simp at h0⊢;omega)) ⟨i+1,all++[Lib.join (r.map (avT false)) [43]],_,rfl,hlt,hid htk3.o.symm,f1.o,rfl,rfl⟩
 have hke:i=d.length:=amM;subst hke;have g1:¬(d.length:Int)<(d.length:Int):=amM;have e:=hall.o;rw[ajL]at e;have h':=h.o;simp only[aP]at h' hj2;replace h':=hid h';clear hall;subst e;refine wk ?_;refine abl amN (by simp;omega) hj2 ?_;refine amU ?_;exact ab rfl h'.o
theorem ZX(s:List UInt8):(bY s).length<=s.length:=by have:=oN s s.length;rwa[ajL]at this
theorem J0(s:List UInt8):(bT s).length<=s.length:=by
 have h1:=ZX (ag s);have h2:(ag s).length=s.length:=by simp[ag]
 unfold bT dy;split;simp only[List.length_dropLast];omega;omega
theorem adx{xs:List (List UInt8)}{i n:Nat}{cp:Option Nat}(he:n=xs.length)(hx:xs≠[])(hn:xs.length<=1100000)(hL:L[i]?=some (.cells (aC xs)))(h:K (.tup []) (L.set i (.cells (aC (dY xs))))):
  ajp 132 [.lsl i 0 n cp 1] L K:=by
 subst he;exact afH (rest:=[]) hx hn (by simpa using hL) (by simpa using h)
theorem Wy(xs:List (List UInt8)):(dY xs).length=xs.length:=by simp[dY]
theorem aaZ{d:List Rdn}{cap:Option Nat}(hn:d.length<=1000)(hr:∀r∈d,r.length<=1000/\∀a∈r,a.1.length<=10000/\a.2.length<=10000)(hj1:∀r∈d,(cP true r).length<=140737488355328)(hj2:(aP true d).length<=140737488355328)(h:K (.str (aP true d)) L):
  ajp 85 [.sl (d.map ah) d.length cap,.bool true] L K:=by
 replace h:=hid h;have hat:=hid (λk=>@kc d k);replace hr:=hid hr;replace hj1:=hid hj1;have s4:∀(W:List Blk) (j:Nat) (A:Blk),L.length<=j->(L++W).set j A=L++W.set (j-L.length) A:=λW j A hj=>ajZ _ _ hj
 replace s4:=hid s4;refine ajo Ri ?_;refine bK (l:=[]) (n:=0) 5 1 rfl (ajX 1).symm ?_;refine aq (λn T' L'=>∃(i:Nat) (all:List (List UInt8)) (Z:List Blk),n=d.length-i/\i<=d.length/\Hid (all=(d.take i).map (cP true))/\L'[L.length]?=some (.spare i 1)/\T'=[(13,.int .i64 (i:Int)),(12,.int .i64 d.length),(11,.sl (d.map ah) d.length cap),(5,.gsl (aC all) i L.length 1),(1,.bool true)]/\L'=L++Z) amQ ⟨0,[],[.spare 0 1],rfl,aju _,hid rfl,amN,rfl,rfl⟩ ?_;rintro _ _ _ ⟨i,all,X,rfl,hi,hall,ho,rfl,rfl⟩;by_cases hlt:i<d.length
 .have g1:(i:Int)<(d.length:Int):=amM;have g2:=ajn i amM;have e2:=hat.o i hlt;have hrm:d.getD i []∈d:=(by rw[ajO,ajF hlt];exact aky _);have hrl:=hr.o _ hrm;have hjr:=hj1.o _ hrm;obtain⟨r,hri⟩:=ajl (d.getD i []);have htk:d.take (i+1)=d.take i++[r]:=(by rw[ajN hlt,<- hri];simp[hlt]);rw[hri]at e2 hrl hjr;clear hri hrm;obtain⟨hrl1,hrl2⟩:=hrl;replace hrl2:=hid hrl2;replace htk:=hid htk;have hX:=(ajr.1 ho).1;rw[ajA]at hX;replace hX:=hid hX;refine wk ?_;refine aq (λn T' L'=>∃(k:Nat) (v:AV) (Z:List Blk),n=r.length-k/\k<=r.length/\X.length<=Z.length/\L'[L.length]?=some (.spare i 1)/\Hid ((v=.sl [] 0 (some 0)/\k=0)\/∃j,(0<k/\L.length<j)/\v=.lsl j 0 k none 1/\L'[j]?=some (.cells (aC ((r.take k).map (avT true)))))/\T'=[(19,.int .i64 (k:Int)),(18,.int .i64 r.length),(17,ah r),(8,v),(13,.int .i64 (i:Int)),(12,.int .i64 d.length),(11,.sl (d.map ah) d.length cap),(5,.gsl (aC all) i L.length 1),(1,.bool true)]/\L'=L++Z) amQ ⟨0,_,X,rfl,aju _,ajs _,ho,hid (.inl ⟨rfl,rfl⟩),rfl,rfl⟩ ?_;rintro _ _ _ ⟨k,v,Z,rfl,hk,hXZ,ho2,hv,rfl,rfl⟩;replace hXZ:=hid hXZ;by_cases hkl:k<r.length
  .have g3:(k:Int)<(r.length:Int):=amM;have g4:=ajn k amM;have e3:=fL hkl;have e4:k*2+2<=(aL r).length:=(by rw[cJ];omega);obtain⟨⟨ty,va⟩,ha⟩:∃a,r.getD k ([],[])=a:=⟨_,rfl⟩;have ham:(ty,va)∈r:=(by rw[<- ha];simp[hkl]);have htk2:(r.take (k+1)).map (avT true)=(r.take k).map (avT true)++[ag ty++61::fN (bT va)]:=by rw[ajN hkl];have:r[k]=(ty,va):=(by rw[<- ha];simp[hkl]);rw[this];simp[avT]
   rw[ha]at e3;simp only[mu]at e3;have hva:=hrl2.o _ ham;simp only at hva;have hpl:=J0 va;have hva':(bT va).length<=100000:=amM;have hva2:(va.length:Int)<=100000:=amM;have hty2:(ty.length:Int)<=100000:=amM;have hwl:=OL (bT va).length (bT va) 0;have hfl:(ag ty).length=ty.length:=(by simp[ag]);have b1:((ag ty).length:Int)+1<=9223372036854775807:=amM;have b2:((ag ty).length:Int)+1+((fN (bT va)).length:Int)<=9223372036854775807:=(by unfold fN;omega);clear hwl ha ham hva hfl hpl;replace htk2:=hid htk2;have q1:(k+1)*16<=140737488355328:=amM;have q2:k+1<=140737488355328:=amM;have q3:k<=140737488355327:=amM;rcases hv.o with⟨rfl,hk0⟩|⟨j,⟨hk1,hBj⟩,rfl,hj⟩;replace hk0:=hid hk0;have kk1:=@amT _ _ _ _ (Js hty2);have kk2:=@amT _ _ _ _ (UB hva2);have kk3:=@amT _ _ _ _ (gx hva');refine wk ?_;refine amR amM (CutL (b:=?_)) ⟨k+1,.lsl (L.length+(Z.length+1)) 0 1 none 1,_,rfl,hkl,?_,?_,hid (.inr ⟨L.length+(Z.length+1),⟨amM,amM⟩,by rw[hk0.o],?_⟩),rfl,rfl⟩;have:=hXZ.o;simp;omega;have:=hXZ.o;simp;omega;rw[<- ajD,ajw (ajr.1 ho2).1];exact ho2;rw[oK,oK,htk2.o,hk0.o];rfl
   .obtain⟨cur,hcur⟩:=ajl ((r.take k).map (avT true));have hcl:cur.length=k:=(by rw[<- hcur];simp;omega);rw[hcur]at hj;have f1:(L++(Z++[Blk.cells [.str (ag ty),.str (bT va)]]))[j]?=some (.cells (aC cur)):=by rw[<- ajD,ajw (ajr.1 hj).1];exact hj
    have f2:(L++(Z++[Blk.cells [.str (ag ty),.str (bT va)]])).set j .dead=L++(Z++[Blk.cells [.str (ag ty),.str (bT va)]]).set (j-L.length) .dead:=s4.o _ _ _ amM;have f3:k<=(aC cur).length:=(by simp[hcl]);have f4:(aC cur).take k=aC cur:=aj3 (by simp[hcl]);replace hcur:=hid hcur;replace hcl:=hid hcl;have hjL:=hid (show j≠L.length by omega);have f2':=hid f2
    repeat' first
     |refine cA ?_
     | (first|refine bG amO ?_|refine ba amO ?_|refine be ?_|refine dN ?_|refine cD (fun _=>?_)|refine aU ?_|refine bI ?_|refine Js hty2 ?_|refine UB hva2 ?_|refine gx hva' ?_|refine bQ (Js hty2 ⟨rfl,rfl⟩) (Js hty2 ⟨rfl,rfl⟩) ?_|refine bQ (UB hva2 ⟨rfl,rfl⟩) (UB hva2 ⟨rfl,rfl⟩) ?_|refine bQ (gx hva' ⟨rfl,rfl⟩) (gx hva' ⟨rfl,rfl⟩) ?_|refine bi (Js hty2 ⟨rfl,rfl⟩) ?_|refine bi (UB hva2 ⟨rfl,rfl⟩) ?_|refine bi (gx hva' ⟨rfl,rfl⟩) ?_)
       refine sm ?_
     | (first|refine bC amO ?_|refine bz ?_|refine bd ?_|refine bH ?_|refine cI (aT ?_))
       refine sl ?_
     |exact cE
     |first|apply cF|apply bD|apply cG|apply bE|apply cH|apply bF
     |refine bh ?_
     |refine bc ?_
     |first|refine bf rfl ?_|refine bg rfl ?_|refine aI rfl ?_ ?_|refine bm rfl (λ_=>?_) (λ_=>?_)|refine bj rfl (λ_=>?_) (λ_=>?_)
     |((first|refine aG (λ_=>?_) (λ_=>?_)|refine aS (λ_=>?_) (λ_=>?_))<;>try refine sm ?_)
     |refine And.intro trivial ?_
     |refine And.intro amM ?_
     |refine br rfl (λ_=>?_) (λ_=>?_)
     |refine And.intro ?_ ?_
    rw[hcl.o];exact ajs _;have hA:((Z++[Blk.cells [.str (ag ty),.str (bT va)]]).set (j-L.length) .dead).length=Z.length+1:=amN;refine amR amM (CutL (b:=?_)) ⟨k+1,.lsl (L.length+(Z.length+1)) 0 (k+1) none 1,_,rfl,hkl,?_,?_,hid (.inr ⟨L.length+(Z.length+1),⟨amM,amM⟩,rfl,?_⟩),rfl,rfl⟩;have:=hXZ.o;simp;omega;have:=hXZ.o;simp;omega;rw[<- ajD,<- f2'.o,ajw amN,ajJ hjL.o,<- ajD,ajw (ajr.1 ho2).1];exact ho2;rw[oK,<- hA,XO,htk2.o,hcur.o];simp
  have hke:k=r.length:=amM;subst hke;have g3:¬(r.length:Int)<(r.length:Int):=amM;have q4:(i+1)*16<=140737488355328:=amM;have q5:i+1<=140737488355328:=amM;have hrow:cP true r=Lib.join (dY (r.map (avT true))) [43]:=(by simp[cP]);rw[hrow]at hjr;have htk3:(d.take (i+1)).map (cP true)=all++[Lib.join (dY (r.map (avT true))) [43]]:=by rw[htk.o,ajV,<- hall.o,<- hrow];rfl
  replace hrow:=hid hrow;replace htk3:=hid htk3;rcases hv.o with⟨rfl,hk0⟩|⟨j,⟨hk1,hBj⟩,rfl,hj⟩;have hr0:r=[]:=aj4.1 hk0;have f0:(L++Z).set L.length (.spare (i+1) 1)=L++Z.set 0 (.spare (i+1) 1):=(by rw[s4.o _ _ _ (ajs _),ale]);have f1:(L++Z.set 0 (.spare (i+1) 1))[L.length]?=some (.spare (i+1) 1):=by rw[<- f0,aj1,if_pos rfl,if_pos (ajr.1 ho2).1]
  replace f1:=hid f1;replace hk0:=hid hk0;refine wk ?_;refine ady ?_;refine amU ?_;refine Q3 (xs:=[]) amN (by simp[Lib.join]) ?_;refine amU ?_;rw[show aC all++[AV.str (Lib.join [] [43])]=aC (all++[Lib.join [] [43]])by simp];exact amR amM (CutL (b:=by have:=hX.o;have h0:=(ajr.1 ho2).1;simp at h0⊢;omega)) ⟨i+1,all++[Lib.join [] [43]],_,rfl,hlt,hid (by rw[htk3.o,hr0];simp[dY]),f1.o,rfl,rfl⟩;rw[ajL]at hj;have hr0:r≠[]:=λe=>by rw[e]at hk1;cases hk1
  obtain⟨xs,hxs⟩:=ajl (r.map (avT true));have hxl:r.length=xs.length:=(by rw[<- hxs];simp);have hxne:xs≠[]:=λe=>hr0 (by have:=hxl;rw[e]at this;exact aj4.1 this)
  rw[hxs]at hj hjr htk3;have hsl:=Wy xs;have hjl:L.length+(j-L.length)=j:=amM;have f2:(L++Z).set j (.cells (aC (dY xs)))=L++Z.set (j-L.length) (.cells (aC (dY xs))):=s4.o _ _ _ amM;have f3:(L++Z.set (j-L.length) (.cells (aC (dY xs))))[j]?=some (.cells (aC (dY xs))):=by rw[<- f2,aj1,if_pos rfl,if_pos (ajr.1 hj).1]
  have ho3:(L++Z.set (j-L.length) (.cells (aC (dY xs))))[L.length]?=some (.spare i 1):=by rw[<- f2,ajJ amM];exact ho2
  clear ho2;replace hj:=hid hj;generalize hZ1:Z.set (j-L.length) (.cells (aC (dY xs)))=Z1 at f2 f3 ho3;have f0:(L++Z1).set L.length (.spare (i+1) 1)=L++Z1.set 0 (.spare (i+1) 1):=(by rw[s4.o _ _ _ (ajs _),ale]);have f1:(L++Z1.set 0 (.spare (i+1) 1))[L.length]?=some (.spare (i+1) 1):=by rw[<- f0,aj1,if_pos rfl,if_pos (ajr.1 ho3).1]
  replace f1:=hid f1;replace f2:=hid f2;replace f3:=hid f3;replace hxs:=hid hxs;replace hxl:=hid hxl;replace hsl:=hid hsl;clear hZ1;replace hxne:=hid hxne;refine wk ?_;refine adx hxl.o hxne.o (by have:=hxl.o;omega) hj.o ?_;rw[f2.o];refine amU ?_;refine YX (xs:=dY xs) (by rw[hsl.o];exact hxl.o) (λe=>hxne.o (by have:=hsl.o;rw[e]at this;exact aj4.1 this.symm)) (by have:=hxl.o;rw[hsl.o];omega) hjr f3.o ?_;refine amU ?_;rw[show aC all++[AV.str (Lib.join (dY xs) [43])]=aC (all++[Lib.join (dY xs) [43]])by simp];exact amR amM (CutL (b:=by have h0:=(ajr.1 ho3).1;simp at h0⊢;omega)) ⟨i+1,all++[Lib.join (dY xs) [43]],_,rfl,hlt,hid htk3.o.symm,f1.o,rfl,rfl⟩
 have hke:i=d.length:=amM;subst hke;have g1:¬(d.length:Int)<(d.length:Int):=amM;have e:=hall.o;rw[ajL]at e;have h':=h.o;simp only[aP]at h' hj2;replace h':=hid h';clear hall;subst e;refine wk ?_;refine abl amN (by simp;omega) hj2 ?_;refine amU ?_;exact ab rfl h'.o
def Jp(r:Rdn):Bool:=r.any λa=>decide (4096<a.2.length)
def xr(d:List Rdn):Bool:=d.any Jp
theorem W8:∀(t done:Rdn),du done t=0->done.length<=8->(done++t).length<=8/\∀a∈t,a.1.length<=32
 |[],done,_,h=>by simp;exact h
 | a::t,done,h,hd=>by
   simp only[du]at h;split at h
   .cases h
   .split at h
    .cases h
    .split at h
     .cases h
     .rename_i h1 h2 h3;have:=W8 t (done++[a]) h (by simp;omega);refine⟨by simpa using this.1,λb hb=>?_⟩;rcases ajM.1 hb with rfl|hb
      .exact tL (by simpa using h2)
      .exact this.2 b hb
theorem Ua:∀(d:List Rdn) (i:Nat),il i d=0->i<=32->i+d.length<=32/\∀r∈d,r.length<=8/\∀a∈r,a.1.length<=32
 |[],i,_,h=>by simp;exact h
 | r::d,i,h,hi=>by
   simp only[il]at h;split at h
   .cases h
   .split at h
    .cases h
    .split at h
     .rename_i h3;exact absurd h h3
     .rename_i h1 h2 h3;have h3':du [] r=0:=(by simpa using h3);have a1:=W8 r [] h3' amN;have a2:=Ua d (i+1) h amM;refine⟨by simp;omega,λq hq=>?_⟩;rcases ajM.1 hq with rfl|hq
      .exact⟨by simpa using a1.1,a1.2⟩
      .exact a2.2 q hq
theorem JV(s:List UInt8):(fN s).length<=3*s.length:=OL _ _ _
theorem agL{key:Bool}{a:Ava}(h1:a.1.length<=32)(h2:a.2.length<=4096):(avT key a).length<=20000:=by
 have e1:=JV a.2;have e2:=JV (bT a.2);have e3:=J0 a.2;have e4:(ag a.1).length=a.1.length:=by simp[ag]
 unfold avT;split;simp;omega;simp;omega
theorem U0{B:Nat}{sep:List UInt8}:∀xs:List (List UInt8),(∀x∈xs,x.length<=B)->(Lib.join xs sep).length<=xs.length*(B+sep.length)
 |[],_=>by simp[Lib.join]
 |[x],h=>by have:=h x amN;simp[Lib.join,List.intercalate];omega
 | x::y::l,h=>by
   have h1:=U0 (sep:=sep) (y::l) λz hz=>h z (alb _ hz)
   have h2:=h x amN;have e:Lib.join (x::y::l) sep=x++(sep++Lib.join (y::l) sep):=(by simp[Lib.join,List.intercalate]);rw[e];simp only[ajA,ajz,alJ]at h1⊢;omega
theorem OY{key:Bool}{r:Rdn}(h0:r.length<=8)(h1:∀a∈r,a.1.length<=32)(h2:∀a∈r,a.2.length<=4096):(cP key r).length<=200000:=by
 have key1:∀xs:List (List UInt8),xs.length<=8->(∀x∈xs,x.length<=20000)->(Lib.join xs [43]).length<=200000:=λxs a b=>by have c:=U0 (sep:=[43]) xs b;have d:xs.length*(20000+[(43:UInt8)].length)<=8*(20000+1):=akC _ a;omega
 have hm:∀x∈r.map (avT key),x.length<=20000:=λx hx=>by obtain⟨a,ha,rfl⟩:=ajy.1 hx;exact agL (h1 a ha) (h2 a ha)
 unfold cP;split;refine key1 _ (by rw[Wy];simpa using h0) λx hx=>hm x ?_
 exact(ali (r.map (avT key)) _).mem_iff.1 hx;exact key1 _ (by simpa using h0) hm
theorem OR{key:Bool}{d:List Rdn}(h0:d.length<=32)(h1:∀r∈d,(cP key r).length<=200000):(aP key d).length<=10000000:=by
 have c:=U0 (sep:=[44]) (B:=200000) (d.map (cP key)) λx hx=>by obtain⟨r,hr,rfl⟩:=ajy.1 hx;exact h1 r hr
 have e:(d.map (cP key)).length*(200000+[(44:UInt8)].length)<=32*(200000+1):=akC _ (by simpa using h0);unfold aP;omega
def prS(d:List Rdn):List UInt8×Int:=if il 0 d≠0 then([],il 0 d)else if xr d=true then([],5)else if 4096<(aP false d).length then([],5)else(aP false d,0)
def iQ(p:List UInt8×Int):AV:=.tup [.str p.1,.int .i64 p.2]
def tf(d:List Rdn):List UInt8×Int:=if(prS d).2≠0 then([],(prS d).2)else(aP true d,0)
def aei(s:List UInt8):List UInt8×Int:=if(da s).2≠0 then([],(da s).2)else tf (da s).1
theorem jm{d:List Rdn}{cap:Option Nat}(hn:d.length<=1100000)(hr:∀r∈d,r.length<=1100000)(h:K (iQ (prS d)) L):
  ajp 36 [.sl (d.map ah) d.length cap] L K:=by
 have hat:=hid (λk=>@kc d k);unfold prS iQ at h;refine ajo Wi ?_;refine agy hn hr ?_;by_cases hc:il 0 d=0;rotate_left;rw[if_pos hc]at h;replace h:=hid h;refine amU ?_;exact ac h.o;rw[if_neg (by simpa using hc)]at h;obtain⟨hd32,hd8⟩:=Ua d 0 hc amM;rw[hc];replace hd8:=hid hd8;replace h:=hid h;clear hr hn hc;refine amU ?_;refine aq (λn T' L'=>∃(i:Nat) (c:Int) (Z:List Blk),n=d.length-i/\i<=d.length/\Hid (xr (d.take i)=false/\0<=c/\c<=8*i)/\T'=[(18,.int .i64 (i:Int)),(17,.int .i64 d.length),(16,.sl (d.map ah) d.length cap),(5,.int .i64 c),(0,.sl (d.map ah) d.length cap)]/\L'=L++Z) amQ ⟨0,0,[],rfl,aju _,hid ⟨rfl,amM,amM⟩,rfl,amN⟩ ?_;rintro _ _ _ ⟨i,c,X,rfl,hi,hI,rfl,rfl⟩;by_cases hlt:i<d.length;have g1:(i:Int)<(d.length:Int):=amM;have g2:=ajn i amM;have e2:=hat.o i hlt;have hrm:d.getD i []∈d:=by rw[ajO,ajF hlt];exact aky _
 obtain⟨r,hri⟩:=ajl (d.getD i []);have htk:d.take (i+1)=d.take i++[r]:=by rw[ajN hlt,<- hri];simp[hlt]
 rw[hri]at e2 hrm;have hr8:=(hd8.o r hrm).1;have bad:Jp r=true->K (.tup [.str [],.int .i64 5]) L:=λe=>by have h':=h.o;rw[if_pos (show xr d=true from akX.2 ⟨r,hrm,e⟩)]at h';exact h'
 replace bad:=hid bad;replace htk:=hid htk;clear hri hrm;refine wk ?_;refine aq (λn T' L'=>∃(k:Nat) (c':Int) (Z:List Blk),n=r.length-k/\k<=r.length/\X.length<=Z.length/\Hid (Jp (r.take k)=false/\c'=c+k)/\T'=[(24,.int .i64 (k:Int)),(23,.int .i64 r.length),(22,ah r),(18,.int .i64 (i:Int)),(17,.int .i64 d.length),(16,.sl (d.map ah) d.length cap),(5,.int .i64 c'),(0,.sl (d.map ah) d.length cap)]/\L'=L++Z) amQ ⟨0,c,X,rfl,aju _,ajs _,hid ⟨rfl,amM⟩,rfl,rfl⟩ ?_;rintro _ _ _ ⟨k,c',Z,rfl,hk,hXZ,hJ,rfl,rfl⟩;replace hXZ:=hid hXZ;by_cases hkl:k<r.length;have g3:(k:Int)<(r.length:Int):=amM;have g4:=ajn k amM;have g5:IntKind.i64.wrap (c'+1)=c'+1:=by obtain⟨_,z1,z2⟩:=hI.o;have:=hJ.o.2;exact ae amM amM
 have e3:=fL hkl;have e4:k*2+2<=(aL r).length:=by rw[cJ];omega
 obtain⟨⟨ty,va⟩,ha⟩:∃a,r.getD k ([],[])=a:=⟨_,rfl⟩;have ham:(ty,va)∈r:=by rw[<- ha];simp[hkl]
 have htk2:r.take (k+1)=r.take k++[(ty,va)]:=by rw[ajN hkl,<- ha];simp[hkl]
 rw[ha]at e3;simp only[mu]at e3;have Rm:4096<va.length->Jp r=true:=λe=>akX.2 ⟨_,ham,by simpa using e⟩
 replace Rm:=hid Rm;replace htk2:=hid htk2;clear ha ham;by_cases hlv:(4096:Int)<(va.length:Int);have h':=hid (bad.o (Rm.o amM));refine wk ?_;exact ab rfl h'.o;refine wk ?_;refine amR amM (CutL (b:=?_)) ⟨k+1,c'+1,_,rfl,hkl,?_,hid ⟨?_,by have:=hJ.o.2;omega⟩,rfl,rfl⟩;have:=hXZ.o;simp;omega;have:=hXZ.o;simp;omega;rw[htk2.o,Jp,alD,show(r.take k).any _=Jp (r.take k)from rfl,hJ.o.1];simp;omega;have hke:k=r.length:=amM;subst hke;have g3:¬(r.length:Int)<(r.length:Int):=amM;have hlr:=hJ.o.1;rw[ajL]at hlr;replace hlr:=hid hlr;refine wk ?_;refine amR amM amP ⟨i+1,c',_,rfl,hlt,hid ⟨?_,?_,?_⟩,rfl,rfl⟩;rw[htk.o,xr,alD,show(d.take i).any _=xr (d.take i)from rfl,hI.o.1];simp[hlr.o];obtain⟨_,z1,z2⟩:=hI.o;have:=hJ.o.2;omega;obtain⟨_,z1,z2⟩:=hI.o;have:=hJ.o.2;omega;have hke:i=d.length:=amM;subst hke;have g1:¬(d.length:Int)<(d.length:Int):=amM;have hld:=hI.o.1;rw[ajL]at hld;have h':=h.o;rw[if_neg (by rw[hld];simp)]at h';have hv:∀r∈d,∀a∈r,a.2.length<=4096:=λr hr a ha=>by have h1:=alr.1 hld r hr;have h1':Jp r=false:=(by simpa using h1);unfold Jp at h1';have h2:=alr.1 h1' a ha;simpa using h2
 have hrl:∀r∈d,(cP false r).length<=200000:=λr hr=>OY (hd8.o r hr).1 (hd8.o r hr).2 (hv r hr)
 have htl:=OR amM hrl;replace h':=hid h';clear hld;replace hv:=hid hv;replace hrl:=hid hrl;refine wk ?_;refine afF amM (λr hr=>⟨by have:=(hd8.o r hr).1;omega,λa ha=>⟨by have:=(hd8.o r hr).2 a ha;omega,by have:=hv.o r hr a ha;omega⟩⟩) (λr hr=>by have:=hrl.o r hr;omega) amM ?_;by_cases hlg:4096<(aP false d).length;have k1:(4096:Int)<((aP false d).length:Int):=amM;have h2:=h'.o;rw[if_pos hlg]at h2;replace h2:=hid h2;clear hlg;refine amU ?_;exact ab rfl h2.o;have k1:¬(4096:Int)<((aP false d).length:Int):=amM;have h2:=h'.o;rw[if_neg hlg]at h2;replace h2:=hid h2;clear hlg;refine amU ?_;exact ab rfl h2.o
theorem UE{d:List Rdn}(h:(prS d).2=0):d.length<=32/\∀r∈d,r.length<=8/\∀a∈r,a.1.length<=32/\a.2.length<=4096:=by
 unfold prS at h;split at h;rename_i hc;exact absurd h hc;rename_i hc;split at h;cases h;rename_i hl;have h0:il 0 d=0:=by simpa using hc
 obtain⟨h1,h2⟩:=Ua d 0 h0 amM;have hld:xr d=false:=by simpa using hl
 refine⟨amM,λr hr=>⟨(h2 r hr).1,λa ha=>⟨(h2 r hr).2 a ha,?_⟩⟩⟩;have k1:=alr.1 hld r hr;have k1':Jp r=false:=by simpa using k1
 unfold Jp at k1';have k2:=alr.1 k1' a ha;simpa using k2
theorem Rz{d:List Rdn}{cap:Option Nat}(hn:d.length<=1100000)(hr:∀r∈d,r.length<=1100000)(h:K (iQ (tf d)) L):
  ajp 58 [.sl (d.map ah) d.length cap] L K:=by
 unfold tf iQ at h;refine ajo XY ?_;refine jm hn hr ?_;unfold iQ;obtain⟨⟨ps,pe⟩,hp⟩:∃p,prS d=p:=⟨_,rfl⟩;rw[hp]at h⊢;simp only at h⊢;by_cases h0:pe=0;subst h0;obtain⟨q1,q2⟩:=UE (by rw[hp]);rw[if_neg amN]at h;have hrl:∀r∈d,(cP true r).length<=200000:=λr hr=>OY (q2 r hr).1 (λa ha=>((q2 r hr).2 a ha).1) (λa ha=>((q2 r hr).2 a ha).2)
 have htl:=OR amM hrl;replace h:=hid h;replace q2:=hid q2;replace hrl:=hid hrl;clear hp hr;refine amU ?_;refine aaZ amM (λr hr=>⟨by have:=(q2.o r hr).1;omega,λa ha=>⟨by have:=((q2.o r hr).2 a ha).1;omega,by have:=((q2.o r hr).2 a ha).2;omega⟩⟩) (λr hr=>by have:=hrl.o r hr;omega) amM ?_;refine amU ?_;exact ac h.o;rw[if_pos h0]at h;replace h:=hid h;clear hp hr;refine amU ?_;exact ac h.o
theorem Xs:∀(f:Nat) (out:List Rdn) (now:Rdn) (s:List UInt8),out.length<=32->now.length<=8->(∀r∈out,r.length<=8)->(qA f out now s).1.length<=33/\∀r∈(qA f out now s).1,r.length<=8
 |0,_,_,_,_,_,_=>by simp[qA]
 | f+1,out,now,s,h1,h2,h3=>by
   rw[qA];split
   .simp
   rename_i hlim;have hrow:∀t v:List UInt8,(now++[(t,v)]).length<=8:=λt v=>by simp;omega
   have hout:∀t v:List UInt8,∀r∈out++[now++[(t,v)]],r.length<=8:=λt v r hr=>by
    rcases ajx.1 hr with h|h
    .exact h3 r h
    .rw[ajI.1 h];exact hrow t v
   split
   .simp
   split
   .simp
   split
   .simp
   split
   .simp
   split
   .simp
   split
   .exact⟨by simp;omega,hout _ _⟩
   split
   .exact Xs f _ _ _ (by simp;omega) amN (hout _ _)
   .exact Xs f _ _ _ h1 (hrow _ _) h3
theorem xS(s:List UInt8):(da s).1.length<=33/\∀r∈(da s).1,r.length<=8:=by unfold da;split;simp;split;simp;exact Xs _ _ _ _ amN amN amN
end Go.Proofs.YtdnfjhflkkpokaaGreatDoor.Av
set_option maxRecDepth 100000
namespace Go.Proofs.YtdnfjhflkkpokaaGreatDoor.Av
open Go
def Mu:LSO:=[Aj 2]
def Mt:LSO:=[Aa 7 0,Ax 8 7,A9 9 8 0]
def Mr:LSO:=[Aa 10 0,BN 11 10 0,o1 12 (.conv .i64 (tm 11)),Aa 3 12]
def Mq:LSO:=[Ad 4 1]
def Mp:LSO:=[Aa 13 3,AJ 14 13 240]
def Mo:LSO:=[Ad 4 4]
def Mn:LSO:=[Aa 15 3,Bc 16 15 240,Aa 3 16]
def Mm:LSO:=[Aa 17 3,AJ 18 17 224]
def Ml:LSO:=[Ad 4 3]
def Mk:LSO:=[Aa 19 3,Bc 20 19 224,Aa 3 20]
def Hu:LSO:=[Aa 21 3,AJ 22 21 192]
def Ht:LSO:=[Ad 4 2]
def Hs:LSO:=[Aa 23 3,Bc 24 23 192,Aa 3 24]
def Hr:LSO:=[Aa 25 3,AJ 26 25 128]
def Hq:LSO:=[Aj 2]
def Hp:LSO:=[Aa 27 0,Ax 28 27,Aa 29 4,Al 30 28 29]
def Ho:LSO:=[Aj 2]
def Hn:LSO:=[Ad 5 1]
def Hm:LSO:=[Aa 31 5,Aa 32 4,Al 33 31 32]
def Hl:LSO:=[Aa 36 0,Aa 37 5,AK 38 36 37,o1 39 (.conv .i64 (tm 38)),Aa 6 39]
def Hk:LSO:=[Aa 40 6,AT 41 40 128,Aa 42 41,.grp none 42 false
 [Ag 43 42 6,BM 44 42 43 192]
 45 (tm 44)]
def Hj:LSO:=[Aj 2]
def Hi:LSO:=[Aa 46 3,o1 47 (.bin .mul (tm 46) (iv 64)),Aa 48 6,Bo 49 47 48,Bc 50 49 128,Aa 3 50]
def Hh:LSO:=[Aa 34 5,Ah 35 34 1,Aa 5 35]
def Hg:LSO:=[Aa 51 4,Ao 52 51 2,Aa 53 52,.grp none 53 true
 [Ae 54 53 3,BF 55 53 54 128]
 56 (tm 55),Aa 57 56,.grp none 57 false
 [Ag 58 57 4,AO 59 57 58 3,Ag 60 57 59,.grp (some (57,false)) 60 true
 [Ae 61 60 3,BF 62 60 61 2048]
 63 (tm 62)]
 64 (tm 63),Aa 65 64,.grp none 65 false
 [Ag 66 65 4,AO 67 65 66 4,Ag 68 65 67,.grp (some (65,false)) 68 true
 [Ae 69 68 3,BF 70 68 69 65536]
 71 (tm 70)]
 72 (tm 71),Aa 73 72,.grp none 73 false
 [Ag 74 73 3,AF 75 73 74 1114111]
 76 (tm 75),Aa 77 76,.grp none 77 false
 [Ag 78 77 3,BM 79 77 78 55296,Ag 80 77 79,.grp (some (77,false)) 80 true
 [Ae 81 80 3,BF 82 80 81 57344]
 83 (tm 82)]
 84 (tm 83)]
def Hf:LSO:=[Aj 2]
def He:LSO:=[Aa 85 0,Aa 86 4,BZ 87 85 86,Aa 0 87]
def Hd:LSO:=[A6 2]
def JH:aQ:=⟨88,(amF Mu [] (.seq (amI 0 (.seq (amF Mt Cm (amJ 9 0)) (.block 1 (amF Mr Cp (amF Mq [] (.seq (amF Mp Cl (amG 14 (amF Mo [] (.sreg Mn Cm)) (amF Mm Cl (amG 18 (amF Ml [] (.sreg Mk Cm)) (amF Hu Cl (amG 22 (amF Ht [] (.sreg Hs Cm)) (amF Hr Cl (amH 26 (.sreg Hq []))))))))) (.seq (amF Hp Cp (amH 30 (.sreg Ho []))) (.seq (amF Hn [] (amI 2 (.seq (amF Hm Cm (amJ 33 2)) (.seq (.block 3 (amF Hl Co (.seq (amF Hk Cp (amH 45 (.sreg Hj []))) (.sreg Hi Cq)))) (.sreg Hh Cm))))) (.seq (amF Hg C4 (amH 84 (.sreg Hf []))) (.sreg He Cp)))))))))) (amF Hd [] .ret))),[(.tmp 2)]⟩
attribute [push_cast] Mu Mt Mr Mq Mp Mo Mn Mm Ml Mk Hu Ht Hs Hr Hq Hp Ho Hn Hm Hl Hk Hj Hi Hh Hg Hf He Hd
theorem VF:amK 138=amL JH:=amO
def vt:LSO:=[Aj 2]
def vr:LSO:=[Ad 3 0]
def vq:LSO:=[Aa 4 3,Aa 5 0,Ax 6 5,Al 7 4 6]
def vp:LSO:=[Aa 10 0,Aa 11 3,AK 12 10 11,o1 13 (.bin .lss (tm 12) (.av (.int .u8 48))),Aa 14 13,.grp none 14 false
 [Ag 15 14 0,Ag 16 14 3,B4 17 14 15 16,og 18 14 false (.bin .gtr (tm 17) (.av (.int .u8 57)))]
 19 (tm 18)]
def vm:LSO:=[Aj 2]
def vl:LSO:=[Aa 8 3,Ah 9 8 1,Aa 3 9]
def vk:LSO:=[Aa 20 0,Ax 21 20,A9 22 21 0,Aa 2 22]
def qp:aQ:=⟨23,(amF vt [] (.seq (amF vr [] (amI 0 (.seq (amF vq Cp (amJ 7 0)) (.seq (.block 1 (amF vp Cq (amH 19 (.sreg vm [])))) (.sreg vl Cm))))) (amF vk Cp .ret))),[(.tmp 2)]⟩
attribute [push_cast] vt vr vq vp vm vl vk
theorem Rg:amK 189=amL qp:=amO
def u0:LSO:=[Aj 2]
def uZ:LSO:=[Aa 4 0,o1 5 (.bin .eql (tm 4) (.av (.str [48])))]
def uY:LSO:=[A6 2]
def uX:LSO:=[o1 3 (.mv (.av (.str [57,50,50,51,51,55,50,48,51,54,56,53,52,55,55,53,56,48,55])))]
def uW:LSO:=[Aa 6 0,Ax 7 6,A9 8 7 0,Aa 9 8,.grp none 9 true
 [Ae 10 9 0,og 11 9 true (.idxS (tm 10) (iv 0)),og 12 9 true (.bin .eql (tm 11) (.av (.int .u8 45)))]
 13 (tm 12)]
def uV:LSO:=[Aa 14 0,o1 15 (.slS (tm 14) (some (iv 1)) none),Aa 0 15]
def uU:LSO:=[o1 3 (.mv (.av (.str [57,50,50,51,51,55,50,48,51,54,56,53,52,55,55,53,56,48,56])))]
def uT:LSO:=[Aa 16 0,Ai 17 189 16,Aa 18 17,.grp none 18 true
 [Ae 19 18 0,og 20 18 true (.idxS (tm 19) (iv 0)),og 21 18 true (.bin .neq (tm 20) (.av (.int .u8 48)))]
 22 (tm 21),Aa 23 22,.grp none 23 true
 [Ae 24 23 0,og 25 23 true (.len true (tm 24)),BF 26 23 25 19,Ae 27 23 26,.grp (some (23,true)) 27 false
 [Ag 28 27 0,B1 29 27 28,AO 30 27 29 19,Ag 31 27 30,.grp (some (27,false)) 31 true
 [Ae 32 31 0,Ae 33 31 3,og 34 31 true (.bin .leq (tm 32) (tm 33))]
 35 (tm 34)]
 36 (tm 35)]
 37 (tm 36),Aa 2 37]
def qn:aQ:=⟨38,(amF u0 [] (.seq (amF uZ Cl (amH 5 (.sreg uY []))) (amF uX [] (.seq (amF uW Co (amG 13 (amF uV Cm (.sreg uU [])) .skip)) (amF uT Cr .ret))))),[(.tmp 2)]⟩
attribute [push_cast] u0 uZ uY uX uW uV uU uT
theorem Re:amK 139=amL qn:=amO
def MB:LSO:=[Ad 2 0]
def MA:LSO:=[Ad 3 0]
def Mz:LSO:=[Ad 4 0]
def My:LSO:=[Aa 5 4,Aa 6 0,Ax 7 6,Al 8 5 7]
def Mx:LSO:=[Aa 11 3,o1 12 (.bin .mul (iv 10) (tm 11)),Aa 13 0,Aa 14 4,AK 15 13 14,o1 16 (.bin .sub (tm 15) (.av (.int .u8 48))),o1 17 (.conv .i64 (tm 16)),
 Bo 18 12 17,Aa 3 18]
def Mw:LSO:=[Aa 9 4,Ah 10 9 1,Aa 4 10]
def Mv:LSO:=[Aa 19 3,Aa 2 19]
def JI:aQ:=⟨20,(amF MB [] (amF MA [] (.seq (amF Mz [] (amI 0 (.seq (amF My Cp (amJ 8 0)) (.seq (.block 1 (.sreg Mx Cz)) (.sreg Mw Cm))))) (amF Mv Cl .ret)))),[(.tmp 2)]⟩
attribute [push_cast] MB MA Mz My Mx Mw Mv
theorem VG:amK 190=amL JI:=amO
def vj:LSO:=[Aj 2]
def vh:LSO:=[Aa 7 0,Ax 8 7,A8 9 8 15,Aa 10 9,.grp none 10 false
 [Ag 11 10 0,og 12 10 false (.slS (tm 11) none (some (iv 14))),AH 13 10 189 12,Bq 14 10 13]
 15 (tm 14),Aa 16 15,.grp none 16 false
 [Ag 17 16 0,og 18 16 false (.idxS (tm 17) (iv 14)),og 19 16 false (.bin .neq (tm 18) (.av (.int .u8 90)))]
 20 (tm 19)]
def vg:LSO:=[Aj 2]
def vf:LSO:=[Aa 21 0,o1 22 (.slS (tm 21) none (some (iv 4))),Ai 23 190 22,Aa 24 0,o1 25 (.slS (tm 24) (some (iv 4)) (some (iv 6))),Ai 26 190 25,Aa 27 0,
 o1 28 (.slS (tm 27) (some (iv 6)) (some (iv 8))),Ai 29 190 28,Aa 3 23,Aa 4 26,Aa 5 29]
def ve:LSO:=[Aa 30 4,AT 31 30 1,Aa 32 31,.grp none 32 false
 [Ag 33 32 4,AF 34 32 33 12]
 35 (tm 34),Aa 36 35,.grp none 36 false
 [Ag 37 36 5,Bz 38 36 37 1]
 39 (tm 38),Aa 40 39,.grp none 40 false
 [Ag 41 40 0,Ch 42 40 41 8 10,AH 43 40 190 42,AF 44 40 43 23]
 45 (tm 44),Aa 46 45,.grp none 46 false
 [Ag 47 46 0,Ch 48 46 47 10 12,AH 49 46 190 48,AF 50 46 49 59]
 51 (tm 50),Aa 52 51,.grp none 52 false
 [Ag 53 52 0,Ch 54 52 53 12 14,AH 55 52 190 54,AF 56 52 55 59]
 57 (tm 56)]
def vd:LSO:=[Aj 2]
def vc:LSO:=[Ad 6 31]
def u9:LSO:=[Aa 58 4,Ao 59 58 4,Aa 60 59,.grp none 60 false
 [Ag 61 60 4,AO 62 60 61 6]
 63 (tm 62),Aa 64 63,.grp none 64 false
 [Ag 65 64 4,AO 66 64 65 9]
 67 (tm 66),Aa 68 67,.grp none 68 false
 [Ag 69 68 4,AO 70 68 69 11]
 71 (tm 70)]
def u7:LSO:=[Ad 6 30]
def u6:LSO:=[Aa 72 4,Ao 73 72 2]
def sx:LSO:=[Ad 6 28]
def sw:LSO:=[Aa 74 3,o1 75 (.bin .rem (tm 74) (iv 400)),Ao 76 75 0,Aa 77 76,.grp none 77 false
 [Ag 78 77 3,og 79 77 false (.bin .rem (tm 78) (iv 4)),AO 80 77 79 0,Ag 81 77 80,.grp (some (77,false)) 81 true
 [Ae 82 81 3,Cg 83 81 82 100,Bv 84 81 83 0]
 85 (tm 84)]
 86 (tm 85)]
def su:LSO:=[Ad 6 29]
def sq:LSO:=[Aa 87 5,Aa 88 6,o1 89 (.bin .leq (tm 87) (tm 88)),Aa 2 89]
def qo:aQ:=⟨90,(amF vj [] (.seq (amF vh Cr (amH 20 (.sreg vg []))) (.seq (.sdreg vf [.pure,(.read 0 0),(.read 0 0),.pure,(.read 0 0),(.read 0 0),.pure,(.read 0 0)] CN) (.seq (amF ve C4 (amH 57 (.sreg vd []))) (amF vc [] (.seq (amF u9 Ct (amG 71 (.sreg u7 []) .skip)) (.seq (amF u6 Cl (amG 73 (amF sx [] (amF sw Co (amG 86 (.sreg su []) .skip))) .skip)) (amF sq Cp .ret)))))))),[(.tmp 2)]⟩
attribute [push_cast] vj vh vg vf ve vd vc u9 u7 u6 sx sw su sq
theorem Rf:amK 141=amL qo:=amO
def HE:LSO:=[Aw 4,Aj 5]
def HD:LSO:=[Aa 9 1,Ax 10 9,A9 11 10 4096]
def HC:LSO:=[Aw 4,Aj 5]
def HB:LSO:=[Aa 12 0]
def HA:LSO:=[Ao 14 12 1,Aa 13 14]
def Hz:LSO:=[Aa 15 1,Ax 16 15,A9 17 16 0,Aa 18 17,.grp none 18 true
 [Ae 19 18 1,Bu 20 18 138 19]
 21 (tm 20)]
def Hy:LSO:=[Aa 22 1,Ai 23 135 22,Aa 4 23,A6 5]
def Hx:LSO:=[Ao 25 12 2,Aa 24 25]
def Hw:LSO:=[Aa 26 1,Ax 27 26,A9 28 27 0,Aa 29 28,.grp none 29 true
 [Ae 30 29 1,Bu 31 29 138 30]
 32 (tm 31)]
def Hv:LSO:=[Aa 33 1,Aa 4 33,A6 5]
def Dl:LSO:=[Ao 35 12 3,Aa 34 35]
def Dk:LSO:=[Ad 6 0]
def Dj:LSO:=[Aa 36 6,Aa 37 1,Ax 38 37,Al 39 36 38]
def Di:LSO:=[Aa 42 1,Aa 43 6,AK 44 42 43,o1 45 (.bin .geq (tm 44) (.av (.int .u8 128)))]
def Dh:LSO:=[Aw 4,Aj 5]
def Dg:LSO:=[Aa 40 6,Ah 41 40 1,Aa 6 41]
def Df:LSO:=[Aa 46 1,Ai 47 135 46,Aa 4 47,A6 5]
def De:LSO:=[Ao 49 12 4,Aa 48 49]
def Dd:LSO:=[Aa 50 1,Ai 51 139 50]
def Dc:LSO:=[Aa 52 1,Aa 4 52,A6 5]
def Db:LSO:=[Ao 54 12 5,Aa 53 54]
def Da:LSO:=[Aa 55 1,o1 56 (.bin .eql (tm 55) (.av (.str [84,82,85,69]))),Aa 57 56,.grp none 57 false
 [Ag 58 57 1,og 59 57 false (.bin .eql (tm 58) (.av (.str [70,65,76,83,69])))]
 60 (tm 59)]
def CZ:LSO:=[Aa 61 1,Aa 4 61,A6 5]
def CY:LSO:=[Ao 63 12 6,Aa 62 63]
def CX:LSO:=[Aa 65 1,Ai 66 140 65,Aa 64 66,Ap 67 64,Aq 68 64,Aa 7 67,Aa 8 68]
def CW:LSO:=[Aa 69 8,Ao 70 69 0]
def CV:LSO:=[Aa 71 7,Aa 4 71,A6 5]
def CU:LSO:=[Ao 73 12 7,Aa 72 73]
def At:LSO:=[Aa 74 1,Aa 4 74,A6 5]
def z8:LSO:=[Ao 76 12 8,Aa 75 76]
def z7:LSO:=[Aa 77 1,Ai 78 141 77]
def z6:LSO:=[Aa 79 1,Aa 4 79,A6 5]
def zZ:LSO:=[Aw 4,Aj 5]
def yj:aQ:=⟨80,(amF HE [] (.seq (amF HD Cm (amH 11 (.sreg HC []))) (.seq (amF HB [] (.block 0 (amF HA Cl (amG 13 (amF Hz Co (amH 21 (.sreg Hy Cx))) (amF Hx Cl (amG 24 (amF Hw Co (amH 32 (.sreg Hv Cs))) (amF Dl Cl (amG 34 (.seq (amF Dk [] (amI 1 (.seq (amF Dj Cp (amJ 39 1)) (.seq (.block 2 (amF Di Cp (amH 45 (.sreg Dh [])))) (.sreg Dg Cm))))) (amF Df Cx .ret)) (amF De Cl (amG 48 (amF Dd Cl (amH 51 (.sreg Dc Cs))) (amF Db Cl (amG 53 (amF Da Cp (amH 60 (.sreg CZ Cs))) (amF CY Cl (amG 62 (amF CX Cw (amF CW Cl (amH 70 (.sreg CV Cs)))) (amF CU Cl (amG 72 (amF At Cs .ret) (amF z8 Cl (amG 75 (amF z7 Cl (amH 78 (.sreg z6 Cs))) .skip)))))))))))))))))) (amF zZ [] .ret)))),[(.tmp 4),(.tmp 5)]⟩
attribute [push_cast] HE HD HC HB HA Hz Hy Hx Hw Hv Dl Dk Dj Di Dh Dg Df De Dd Dc Db Da CZ CY CX CW CV CU At z8 z7 z6 zZ
theorem TB:amK 92=amL yj:=amO
attribute [push_cast] JH qp JI
set_option maxHeartbeats 8000000
set_option maxRecDepth 100000
def ae3(s:List UInt8):Bool:=s.all λc=>decide (c.toNat<128)
def dig(v:List UInt8)(i:Nat):Nat:=(v.getD i 0).toNat-48
def two(v:List UInt8)(i:Nat):Nat:=10*dig v i+dig v (i+1)
def jC(c:UInt8):Bool:=decide (48<=c.toNat)&&decide (c.toNat<=57)
def ag5(y:Nat):Bool:=decide (y%4=0) && !decide (y%100=0) ||decide (y%400=0)
def acK(m:Nat):Nat:=if m=2 then 28 else if m=4\/m=6\/m=9\/m=11 then 30 else 31
def ag3(y m:Nat):Nat:=if m=2/\ag5 y=true then acK m+1 else acK m
def aeP(v:List UInt8):Bool:=decide ((1<=two v 4/\two v 4<=12)/\1<=two v 6/\two v 8<=23/\two v 10<=59/\two v 12<=59)&&decide (two v 6<=ag3 (two v 0*100+two v 2) (two v 4))
def Xy(v:List UInt8):Bool:=decide (v.length=15)&&decide (v.getD 14 0=90)&&(v.take 14).all jC&&aeP v
theorem N0{v:List UInt8}{i:Nat}(h1:jC (v.getD i 0)=true)(h2:jC (v.getD (i+1) 0)=true):two v i<=99:=by simp only[jC,ajv,decide_eq_true_eq]at h1 h2;unfold two dig;omega
abbrev ahb:List UInt8:=[84,82,85,69]
abbrev afj:List UInt8:=[70,65,76,83,69]
def ag2(syn:Int)(v:List UInt8):Option (List UInt8):=
 if syn=1 then(if v=[]then none else if Lib.validD v=true then some (bT v)else none)
 else if syn=2 then(if v=[]then none else if Lib.validD v=true then some v else none)
 else if syn=3 then(if ae3 v=true then some (bT v)else none)
 else if syn=4 then(if UN v=true then some v else none)
 else if syn=5 then(if v=ahb\/v=afj then some v else none)
 else if syn=6 then(if(aei v).2=0 then some (aei v).1 else none)
 else if syn=7 then some v
 else if syn=8 then(if Xy v=true then some v else none)
 else none
def sX(syn:Int)(v:List UInt8):Option (List UInt8):=if 4096<v.length then none else ag2 syn v
def YN:Option (List UInt8)->AV
 |some n=>.tup [.str n,.bool true]
 |none=>.tup [.str [],.bool false]
end Go.Proofs.YtdnfjhflkkpokaaGreatDoor.Av
