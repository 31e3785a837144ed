/- Joined texts of the walk, made small by a program. -/
import Derived.Test.YtdnfjhflkkpokaaGreatDoorFk4
import Derived.Test.YtdnfjhflkkpokaaGreatDoorRows
import Derived.KernelRfl
import Derived.Test.YtdnfjhflkkpokaaGreatDoorFk5
import Derived.Laws.RangeAny
import Derived.Laws.RangeString
import Derived.Shelf.Strings.Builder1
import Derived.Shelf.Strings.Builder2
import Derived.Shelf.Strings.OnBuilder
import Derived.Shelf.Small.Bits
import Derived.Shelf.Small.Strs
import Derived.Shelf.Strconv.Itoa0
import Derived.Shelf.Strconv.Itoa1
import Derived.Shelf.LaysM
import Derived.Shelf.Strconv.Itoa2
import Derived.Shelf.Strconv.Itoa3
import Derived.Shelf.Strconv.Itoa4
import Derived.Shelf.Strconv.ParseIntEmpty
import Derived.Shelf.Strconv.Clone
import Derived.Shelf.Strconv.SyntaxError
import Derived.Shelf.LaysC
import Derived.Shelf.Strconv.ToError
import Derived.Shelf.Strconv.Lower
import Derived.Shelf.Strconv.ParseUint10
import Derived.Shelf.Strconv.ParseUint10Empty
import Derived.Shelf.Strconv.ParseUint10Any
import Derived.Shelf.Strconv.ParseInt10
import Derived.Shelf.Strconv.RangeError
import Derived.Shelf.Strconv.ToErrorRange
import Derived.Shelf.Strconv.ParseUintEmpty
import Derived.Shelf.Strconv.ParseUint10b64
import Derived.Shelf.Strconv.ParseUint10b32
import Derived.Shelf.Strconv.ParseUint10b16
import Derived.Shelf.Strconv.ParseUint10b8
import Derived.Shelf.Strconv.ParseUint10At
import Derived.Shelf.Strconv.ParseInt10At64
import Derived.Shelf.Strconv.ParseInt10At32
import Derived.Shelf.Strconv.ParseInt10At16
import Derived.Shelf.Strconv.ParseInt10At8
import Derived.Shelf.Strconv.ParseInt10All
import Derived.Shelf.Strconv.ParseIntPublic10
import Derived.Shelf.Strconv.ErrVarParseInt
import Derived.Shelf.Strings.Search1
import Derived.Shelf.Strings.Search2
import Derived.Shelf.Strings.Search3
import Derived.Shelf.Strings.Cut
import Derived.Shelf.Strings.Shaped
import Derived.Shelf.Sort.Plain
import Derived.Shelf.GgClosure.StringsIndexFunc
import Derived.Ground.GgwProg
import Derived.Shelf.GgClosure.StringsIndexFuncTop
import Derived.Shelf.GgClosure.StringsRunes
import Derived.Shelf.Strings.Prefix
import Derived.Shelf.Slices.Equal
import Derived.Ground.Names2Prog
import Derived.Shelf.Slices.Clone
import Derived.Shelf.Slices.In.SortNone
import Derived.Ground.SlsfProg
import Derived.Shelf.SlSortCmp.Insertion
import Derived.Shelf.SlSortCmp.SiftDown1
import Derived.Shelf.SlSortCmp.HeapSort1
import Derived.Shelf.SlSortCmp.Insertion1
import Derived.Shelf.SlSortCmp.Median1
import Derived.Shelf.SlSortCmp.Pivot1
import Derived.Shelf.SlSortCmp.ReverseRange1
import Derived.Shelf.SlSortCmp.PartialInsertion1
import Derived.Shelf.SlSortCmp.PartitionEqual1
import Derived.Shelf.SlSortCmp.Partition1
import Derived.Shelf.SlSortCmp.Pdq1
import Derived.Shelf.SlSortCmp.Whole1
import Derived.Test.YtdnfjhflkkpokaaGreatDoorProg
set_option linter.unusedSimpArgs false
set_option linter.unusedVariables false
set_option maxRecDepth 100000
namespace Go.Proofs.YtdnfjhflkkpokaaGreatDoor.Av
open Go
variable {s typ b:List UInt8}{ip:Nat}{cap:Option Nat}{bl:Bool}{d:UInt8}
def XJ:LSO:=[Af 2]
def XI:LSO:=[Aa 5 0,BR 6 5,Aa 7 6,.grp none 7 false
 [Ag 8 7 0,Bt 9 7 8,AC 10 7 9 32]
 11 (tm 10),Aa 12 11,.grp none 12 false
 [Ag 13 12 0,Cf 14 12 13 0,og 15 12 false (.conv .i32 (tm 14)),AN 16 12 174 15,AZ 17 12 16]
 18 (tm 17)]
def XH:LSO:=[Af 2]
def XG:LSO:=[Aa 19 0,o1 20 (.rangeS (tm 19))]
def XF:LSO:=[o1 21 (.nextS (tm 20)),Ao 22 21]
def XE:LSO:=[Ba 23 21,Aa 4 23]
def XD:LSO:=[Aa 24 4,Aj 25 174 24,A7 26 25,Aa 27 26,.grp none 27 true
 [Ae 28 27 4,og 29 27 true (.bin .lss (tm 28) (.av (.int .i32 48))),Ae 30 27 29,.grp (some (27,true)) 30 false
 [Ag 31 30 4,og 32 30 false (.bin .gtr (tm 31) (.av (.int .i32 57)))]
 33 (tm 32)]
 34 (tm 33),Aa 35 34,.grp none 35 true
 [Ae 36 35 4,og 37 35 true (.bin .neq (tm 36) (.av (.int .i32 45)))]
 38 (tm 37)]
def XC:LSO:=[Af 2]
def XB:LSO:=[A0 2]
def Xh:aK:=⟨39,(asI XJ [] (.seq (asI XI CB (asK 18 (.sreg XH []))) (.seq (asI XG C4 (asL 0 (asI XF [] (.seq (asM 22 0) (.block 1 (asI XE C4 (asI XD CC (asK 38 (.sreg XC []))))))))) (asI XB [] .ret)))),[(.tmp 2)]⟩
attribute [push_cast] XJ XI XH XG XF XE XD XC XB
theorem ac0:asN 120=asO Xh:=asR
def RQ:LSO:=[Af 2]
def RP:LSO:=[Aa 3 0,o1 4 (.bin .geq (tm 3) (.av (.int .i32 97))),Aa 5 4,.grp none 5 true
 [Ae 6 5 0,og 7 5 true (.bin .leq (tm 6) (.av (.int .i32 122)))]
 8 (tm 7),Aa 9 8,.grp none 9 false
 [Ag 10 9 0,og 11 9 false (.bin .geq (tm 10) (.av (.int .i32 65))),Ag 12 9 11,.grp (some (9,false)) 12 true
 [Ae 13 12 0,og 14 12 true (.bin .leq (tm 13) (.av (.int .i32 90)))]
 15 (tm 14)]
 16 (tm 15),Aa 2 16]
def Ox:aK:=⟨17,(asI RQ [] (asI RP CC .ret)),[(.tmp 2)]⟩
attribute [push_cast] RQ RP
theorem aaz:asN 174=asO Ox:=asR
def Zm:LSO:=[Az 3 1,Af 4]
def Zl:LSO:=[Aa 5 0,o1 6 (.mkfn 176 [(tm 3)]),As 7 175 5 6,Aa 4 7]
def aaA:aK:=⟨8,(asI Zm [] (asI Zl C7 .ret)),[(.tmp 4)]⟩
attribute [push_cast] Zm Zl
theorem aeB:asN 121=asO aaA:=asR
def UY:LSO:=[Az 2 0,Af 3]
def UX:LSO:=[Ad 4 0 2,Ab 5 1 4,Aj 6 46 5,Ab 7 1 1,Aj 8 46 7,AF 9 6 8,Aa 3 9]
def Td:aK:=⟨10,(asI UY [] (.seq (.sdreg UX [.pure,(.read 0 0),(.read 0 0),(.read 0 0)] CC) .ret)),[(.tmp 3)]⟩
attribute [push_cast] UY UX
theorem aba:asN 176=asO Td:=asR
def UN:LSO:=[Aw 2,Aw 3,Af 4]
def UM:LSO:=[Ak 5]
def UL:LSO:=[Af 6]
def UK:LSO:=[Ac 7 0]
def UJ:LSO:=[Aa 11 7,Aa 12 0,Ax 13 12,Al 14 11 13,Aa 15 14,.grp none 15 true
 [Ae 16 15 0,Ae 17 15 7,Bl 18 15 16 17,og 19 15 true (.bin .neq (tm 18) (.av (.int .u8 44)))]
 20 (tm 19),Aa 21 20,.grp none 21 true
 [Ae 22 21 0,Ae 23 21 7,Bl 24 21 22 23,og 25 21 true (.bin .neq (tm 24) (.av (.int .u8 43)))]
 26 (tm 25)]
def UI:LSO:=[Aa 27 0,Aa 28 7,AK 29 27 28,Aa 8 29]
def UH:LSO:=[Aa 30 8,o1 31 (.bin .eql (tm 30) (.av (.int .u8 32))),Aa 6 31]
def UG:LSO:=[Aa 33 8,o1 34 (.bin .neq (tm 33) (.av (.int .u8 92))),Aa 32 34]
def UF:LSO:=[Aa 35 8,BS 36 35,Aa 37 36,.grp none 37 false
 [Ag 38 37 8,og 39 37 false (.call 177 [(.av (.str [34,59,60,62])),(tm 38)]),BP 40 37 39 0]
 41 (tm 40),Aa 42 41,.grp none 42 false
 [Ag 43 42 5,AM 44 42 43,AH 45 42 44 0,Ag 46 42 45,.grp (some (42,false)) 46 true
 [Ae 47 46 8,B4 48 46 47,Ae 49 46 48,.grp (some (46,true)) 49 false
 [Ag 50 49 8,og 51 49 false (.bin .eql (tm 50) (.av (.int .u8 35)))]
 52 (tm 51)]
 53 (tm 52)]
 54 (tm 53)]
def UE:LSO:=[Aw 2,Aw 3,Af 4]
def RM:LSO:=[Aa 56 7,Ai 57 56 1,Aa 58 0,Ax 59 58,Al 60 57 59,Aa 61 60,.grp none 61 true
 [Ae 62 61 0,Ae 63 61 7,Cj 64 61 63 1,Bl 65 61 62 64,og 66 61 true (.call 177 [(.av (.str [34,43,44,59,60,62,92,32,35,61])),(tm 65)]),og 67 61 true (.bin .geq (tm 66) (iv 0))]
 68 (tm 67),Aa 55 68]
def RL:LSO:=[Aa 69 7,Ai 70 69 1,Aa 7 70]
def RK:LSO:=[Aa 71 0,Aa 72 7,AK 73 71 72,Aa 8 73]
def RJ:LSO:=[Aa 75 7,Ai 76 75 2,Aa 77 0,Ax 78 77,Al 79 76 78,Aa 74 79]
def RI:LSO:=[Aa 81 0,Aa 82 7,Ai 83 82 1,Aa 84 7,Ai 85 84 3,Ck 86 81 83 85,Aj 87 178 86,Aa 80 87,Ao 88 80,Aq 89 80,Aa 9 88,Aa 10 89]
def RH:LSO:=[Aa 90 10,A7 91 90]
def RG:LSO:=[Aw 2,Aw 3,Af 4]
def RF:LSO:=[Aa 92 9,BO 93 92 0,Aa 8 93]
def RE:LSO:=[Aa 94 7,Ai 95 94 2,Aa 7 95]
def RD:LSO:=[Aw 2,Aw 3,Af 4]
def RC:LSO:=[Aa 96 5,Aa 97 8,Bd 98 97,AY 99 96 98,Aa 5 99]
def RB:LSO:=[Aa 100 7,Ai 101 100 1,Aa 7 101]
def RA:LSO:=[Aa 102 5,Bi 103 102,Aa 104 0,Aa 105 7,BQ 106 104 105,Aa 107 6,A7 108 107,Aa 2 103,Aa 3 106,Aa 4 108]
def Tc:aK:=⟨109,(asI UN [] (asI UM [] (asI UL [] (asI UK [] (.seq (asL 0 (.seq (asI UJ CE (asM 26 0)) (.block 1 (asI UI C7 (asI UH C6 (.seq (.block 2 (asI UG C6 (asJ 32 (asI UF CB (asK 54 (.sreg UE []))) (asI RM CE (asJ 55 (asI RL C6 (.sreg RK C7)) (asI RJ CB (asJ 74 (asI RI Dc (.seq (asI RH C4 (asK 91 (.sreg RG []))) (asI RF C6 (.sreg RE C6)))) (asI RD [] .ret)))))))) (asI RC CA (.sreg RB C6)))))))) (.seq (.sdreg RA [.pure,(.read 0 0),.pure,.pure,(.read 0 0),.pure,.pure,.pure,.pure] [true,true,true,false,false,false,false,false,false,false]) .ret)))))),[(.tmp 2),(.tmp 3),(.tmp 4)]⟩
attribute [push_cast] UN UM UL UK UJ UI UH UG UF UE RM RL RK RJ RI RH RG RF RE RD RC RB RA
theorem aa9:asN 122=asO Tc:=asR
def Vy:LSO:=[Ak 2,Ac 3 0]
def Vx:LSO:=[Aa 10 0,Ax 11 10,A8 12 11 4096]
def Vw:LSO:=[Ak 2,Ac 3 5]
def Vv:LSO:=[Aa 13 0,BR 14 13]
def Vu:LSO:=[Ak 2,Ac 3 0]
def Vt:LSO:=[Ak 4]
def Vs:LSO:=[Ak 5]
def Vr:LSO:=[Aa 15 4,Ah 16 15,An 17 16 32,Aa 18 17,.grp none 18 false
 [Ag 19 18 5,AM 20 18 19,AH 21 18 20 8]
 22 (tm 21)]
def Vq:LSO:=[Ak 2,Ac 3 9]
def Vp:LSO:=[Aa 24 0,o1 25 (.call 119 [(tm 24),(.av (.str [61]))]),Aa 23 25,Ao 26 23,Aq 27 23,Ba 28 23,Aa 6 26,Aa 7 27,Aa 8 28]
def Sp:LSO:=[Aa 29 8,A7 30 29,Aa 31 30,.grp none 31 false
 [Ag 32 31 6,AN 33 31 120 32,AZ 34 31 33]
 35 (tm 34)]
def So:LSO:=[Ak 2,Ac 3 4]
def Sn:LSO:=[Aa 36 5,Aa 37 6,As 38 121 36 37]
def Sm:LSO:=[Ak 2,Ac 3 21]
def Sl:LSO:=[Aa 40 7,Aj 41 122 40,Aa 39 41,Ao 42 39,Aq 43 39,Ba 44 39,Aa 9 42,Aa 7 43,Aa 8 44]
def Sk:LSO:=[Aa 45 8,A7 46 45]
def Sj:LSO:=[Ak 2,Ac 3 4]
def Si:LSO:=[Aa 47 5,Aa 48 6,Aa 49 9,o1 50 (.build [(.str []),(.str [])] [(0,(1,(tm 48))),(1,(1,(tm 49)))]),B9 51 50,BA 52 47 51,Aa 5 52]
def Sh:LSO:=[Aa 53 7,BR 54 53]
def Sg:LSO:=[Aa 55 4,Aa 56 5,Bm 57 56,Bj 58 55 57,Aa 2 58,Ac 3 0]
def Sf:LSO:=[Aa 59 7,BO 60 59 0,o1 61 (.bin .eql (tm 60) (.av (.int .u8 44)))]
def Se:LSO:=[Aa 62 4,Aa 63 5,Bm 64 63,Bj 65 62 64,Aa 4 65,Ak 5]
def Sd:LSO:=[Aa 66 7,o1 67 (.slS (tm 66) (some (iv 1)) none),Aa 0 67]
def Tg:aK:=⟨68,(asI Vy [] (.seq (asI Vx C6 (asK 12 (.sreg Vw []))) (.seq (asI Vv C4 (asK 14 (.sreg Vu []))) (asI Vt [] (asI Vs [] (asL 0 (.block 1 (.seq (asI Vr CA (asK 22 (.sreg Vq []))) (asI Vp Dd (.seq (asI Sp C7 (asK 35 (.sreg So []))) (.seq (asI Sn C6 (asK 38 (.sreg Sm []))) (asI Sl Dd (.seq (asI Sk C4 (asK 46 (.sreg Sj []))) (asI Si CC (.seq (asI Sh C4 (asK 54 (.sreg Sg CP))) (.seq (asI Sf C6 (asJ 61 (.sreg Se CP) .skip)) (.sreg Sd C6))))))))))))))))),[(.tmp 2),(.tmp 3)]⟩
attribute [push_cast] Vy Vx Vw Vv Vu Vt Vs Vr Vq Vp Sp So Sn Sm Sl Sk Sj Si Sh Sg Sf Se Sd
theorem abd:asN 77=asO Tg:=asR
def NX:LSO:=[Aw 2]
def NW:LSO:=[Ak 3]
def NV:LSO:=[Aa 7 0,o1 8 (.s2b (tm 7)),Ah 9 8,Ac 10 0]
def NU:LSO:=[Al 11 10 9]
def NT:LSO:=[Aa 12 10,Am 13 1 8 10,Ab 14 1 13,Aa 4 12,Aa 5 14]
def NS:LSO:=[Aa 15 4,An 16 15 0,Aa 17 16,.grp none 17 true
 [Ae 18 17 5,B4 19 17 18,Ae 20 17 19,.grp (some (17,true)) 20 false
 [Ag 21 20 5,og 22 20 false (.bin .eql (tm 21) (.av (.int .u8 35)))]
 23 (tm 22)]
 24 (tm 23),Aa 25 24,.grp none 25 false
 [Ag 26 25 4,Ag 27 25 0,Bt 28 25 27,Cl 29 25 28 1,BB 30 25 26 29,Ag 31 25 30,.grp (some (25,false)) 31 true
 [Ae 32 31 5,B4 33 31 32]
 34 (tm 33)]
 35 (tm 34),Aa 6 35]
def NR:LSO:=[Aa 37 5,BS 38 37,Aa 36 38]
def NQ:LSO:=[Aa 39 3,o1 40 (.app 1 1 1 [(.int .u8 0)] (tm 39) (.av (.str [92,48,48]))),Aa 3 40]
def NP:LSO:=[Aa 42 6,Aa 43 42,.grp none 43 false
 [Ag 44 43 5,og 45 43 false (.call 177 [(.av (.str [34,43,44,59,60,62,92])),(tm 44)]),BP 46 43 45 0]
 47 (tm 46),Aa 41 47]
def NO:LSO:=[Aa 48 3,o1 49 (.bslice false 1 1 [(.int .u8 0)] [(0,(1,(.av (.int .u8 92))))]),AY 50 48 49,Aa 3 50]
def JU:LSO:=[Aa 51 3,Aa 52 5,Bd 53 52,AY 54 51 53,Aa 3 54]
def JT:LSO:=[Ai 55 10 1,Aa 10 55]
def JS:LSO:=[Aa 56 3,Bi 57 56,Aa 2 57]
def Fp:aK:=⟨58,(asI NX [] (asI NW [] (.seq (asI NV CJ (asL 0 (asI NU [] (.seq (asM 11 0) (.seq (.block 1 (asI NT CF (asI NS CC (.seq (.block 2 (asI NR C6 (asJ 36 (asI NQ C6 (.exit 1)) (asI NP C7 (asJ 41 (.sreg NO C7) .skip))))) (.sreg JU CA))))) (.sreg JT C4)))))) (asI JS C6 .ret)))),[(.tmp 2)]⟩
attribute [push_cast] NX NW NV NU NT NS NR NQ NP NO JU JT JS
theorem YM:asN 131=asO Fp:=asR
def U8:LSO:=[Ac 2 0]
def U7:LSO:=[Aa 7 0,Ah 8 7,Ac 9 0]
def U6:LSO:=[Al 10 9 8]
def U5:LSO:=[Aa 11 9,Am 12 1 7 9,Ab 13 1 12,Aa 3 11,Aa 4 13]
def U4:LSO:=[Aa 15 3,An 16 15 32,Aa 14 16]
def U3:LSO:=[Ac 2 9]
def U2:LSO:=[Aa 18 4,Ah 19 18,An 20 19 0,Aa 17 20]
def U1:LSO:=[Ac 2 2]
def U0:LSO:=[Aa 21 4,Ah 22 21,Ac 23 0]
def UZ:LSO:=[Al 24 23 22]
def R2:LSO:=[Aa 25 23,Am 26 2 21 23,Ar 27 2 26,Bn 6,Aa 5 25,Ap 2 6 27]
def RZ:LSO:=[Aa 29 5,An 30 29 8,Aa 28 30]
def RY:LSO:=[Ac 2 9]
def RX:LSO:=[Ad 32 0 6,Ab 33 1 32,Aj 34 120 33,A7 35 34,Aa 31 35]
def RW:LSO:=[Ac 2 20]
def RV:LSO:=[Aa 37 4,Aa 38 5,Cm 39 37 38,Ad 40 0 6,Ab 41 1 40,As 42 121 39 41,Aa 36 42]
def RU:LSO:=[Ac 2 21]
def RT:LSO:=[Ai 43 23 1,Aa 23 43]
def RS:LSO:=[Ai 44 9 1,Aa 9 44]
def RR:LSO:=[Ac 2 0]
def Te:aK:=⟨45,(asI U8 [] (.seq (asI U7 [] (asL 0 (asI U6 [] (.seq (asM 10 0) (.seq (.block 1 (asI U5 CF (.seq (.block 2 (asI U4 C6 (asJ 14 (asI U3 [] .ret) (asI U2 C7 (asK 17 (.sreg U1 [])))))) (asI U0 [] (asL 3 (asI UZ [] (.seq (asM 24 3) (.seq (.block 4 (asI R2 CF (.block 5 (asI RZ C6 (asJ 28 (asI RY [] .ret) (asI RX CA (asJ 31 (asI RW [] .ret) (.seq (.sdreg RV [.pure,.pure,(.read 0 0),.pure,(.read 0 0)] CC) (asK 36 (.sreg RU [])))))))))) (.sreg RT C4))))))))) (.sreg RS C4)))))) (asI RR [] .ret))),[(.tmp 2)]⟩
attribute [push_cast] U8 U7 U6 U5 U4 U3 U2 U1 U0 UZ R2 RZ RY RX RW RV RU RT RS RR
theorem abb:asN 84=asO Te:=asR
def Vo:LSO:=[Aw 2,Ac 3 0]
def Vn:LSO:=[Aa 11 0,Aj 12 84 11,Aa 4 12]
def Vm:LSO:=[Aa 13 4,AB 14 13 0]
def Vl:LSO:=[Aa 15 4,Aw 2,Aa 3 15]
def Vk:LSO:=[Ac 5 0]
def Vj:LSO:=[Aa 16 0,Ah 17 16,Ac 18 0]
def Vi:LSO:=[Al 19 18 17]
def Vh:LSO:=[Am 20 1 16 18,Ab 21 1 20,Aa 7 21]
def Vg:LSO:=[Aa 22 7,Ah 23 22,Ac 24 0]
def Vf:LSO:=[Al 25 24 23]
def Sc:LSO:=[Am 26 2 22 24,Ar 27 2 26,Bn 9,Ap 2 9 27]
def Sb:LSO:=[Ad 28 1 9,Ab 29 1 28,Ax 30 29,A8 31 30 4096]
def Sa:LSO:=[Aw 2,Ac 3 5]
def R9:LSO:=[Aa 32 5,Ai 33 32 1,Aa 5 33]
def R8:LSO:=[Ai 34 24 1,Aa 24 34]
def R7:LSO:=[Ai 35 18 1,Aa 18 35]
def R6:LSO:=[Aa 36 0,o1 37 (.call 85 [(tm 36),(.av (.bool false))]),Aa 10 37]
def R5:LSO:=[Aa 38 10,Ax 39 38,A8 40 39 4096]
def R4:LSO:=[Aw 2,Ac 3 5]
def R3:LSO:=[Aa 41 10,Aa 2 41,Ac 3 0]
def Tf:aK:=⟨42,(asI Vo [] (.seq (asI Vn C6 (asI Vm C4 (asK 14 (.sreg Vl CD)))) (asI Vk [] (.seq (asI Vj [] (asL 0 (asI Vi [] (.seq (asM 19 0) (.seq (.block 1 (asI Vh C6 (asI Vg [] (asL 2 (asI Vf [] (.seq (asM 25 2) (.seq (.block 3 (asI Sc C6 (.seq (asI Sb C7 (asK 31 (.sreg Sa []))) (.sreg R9 C6)))) (.sreg R8 C4)))))))) (.sreg R7 C4)))))) (asI R6 C6 (.seq (asI R5 C6 (asK 40 (.sreg R4 []))) (asI R3 CD .ret))))))),[(.tmp 2),(.tmp 3)]⟩
attribute [push_cast] Vo Vn Vm Vl Vk Vj Vi Vh Vg Vf Sc Sb Sa R9 R8 R7 R6 R5 R4 R3
theorem abc:asN 36=asO Tf:=asR
def XO:LSO:=[Aw 2,Ac 3 0]
def XN:LSO:=[Aa 7 0,Aj 8 36 7,Aa 6 8,Ao 9 6,Aq 10 6,Aa 4 9,Aa 5 10]
def XM:LSO:=[Aa 11 5,AB 12 11 0]
def XL:LSO:=[Aa 13 5,Aw 2,Aa 3 13]
def XK:LSO:=[Aa 14 0,o1 15 (.call 85 [(tm 14),(.av (.bool true))]),Aa 2 15,Ac 3 0]
def Xi:aK:=⟨16,(asI XO [] (.seq (asI XN CC (asI XM C4 (asK 12 (.sreg XL CD)))) (asI XK CL .ret))),[(.tmp 2),(.tmp 3)]⟩
attribute [push_cast] XO XN XM XL XK
theorem ac1:asN 58=asO Xi:=asR
def Zr:LSO:=[Aw 2,Ac 3 0]
def Zq:LSO:=[Aa 7 0,Aj 8 77 7,Aa 6 8,Ao 9 6,Aq 10 6,Aa 4 9,Aa 5 10]
def Zp:LSO:=[Aa 11 5,AB 12 11 0]
def Zo:LSO:=[Aa 13 5,Aw 2,Aa 3 13]
def Zn:LSO:=[Aa 14 4,Aj 15 58 14,Ao 16 15,Aq 17 15,Aa 2 16,Aa 3 17]
def aaB:aK:=⟨18,(asI Zr [] (asI Zq CH (.seq (asI Zp C4 (asK 12 (.sreg Zo CD))) (asI Zn CP .ret)))),[(.tmp 2),(.tmp 3)]⟩
attribute [push_cast] Zr Zq Zp Zo Zn
theorem aeC:asN 109=asO aaB:=asR
def dM:LSO:=[Af 4]
def dL:LSO:=[Aa 5 0,Aa 6 1,As 7 204 5 6,AL 8 7 0,Aa 4 8]
def cX:aK:=⟨9,(asI dM [] (asI dL CA .ret)),[(.tmp 4)]⟩
attribute [push_cast] dM dL
theorem iN:asN 175=asO cX:=asR
def eu:LSO:=[Ac 4 0]
def eo:LSO:=[Aa 6 0,Ah 7 6,Ac 8 0]
def em:LSO:=[Al 9 8 7]
def ek:LSO:=[Aa 10 8,Aa 5 10]
def eh:LSO:=[Aa 11 1,Aa 12 0,Aa 13 5,Am 14 2 12 13,Ar 15 2 14,B1 16 11 15]
def ef:LSO:=[Aa 17 5,Aa 4 17]
def ee:LSO:=[Ai 18 8 1,Aa 8 18]
def ed:LSO:=[Ac 4 (-1)]
def dv:aK:=⟨19,(asI eu [] (.seq (asI eo CD (asL 0 (asI em [] (.seq (asM 9 0) (.seq (.block 1 (asI ek C4 (asI eh CB (asK 16 (.sreg ef C4))))) (.sreg ee C4)))))) (asI ed [] .ret))),[(.tmp 4)]⟩
attribute [push_cast] eu eo em ek eh ef ee ed
theorem ji:asN 204=asO dv:=asR
def FQ:LSO:=[Aw 4,Aw 5,Af 6]
def FP:LSO:=[Aa 7 0,Aa 8 1,As 9 173 7 8,Ao 10 9,Aq 11 9,Ba 12 9,Aa 4 10,Aa 5 11,Aa 6 12]
def jx:aK:=⟨13,(asI FQ [] (asI FP Dd .ret)),[(.tmp 4),(.tmp 5),(.tmp 6)]⟩
attribute [push_cast] FQ FP
theorem Eu:asN 119=asO jx:=asR
def iA:LSO:=[Aw 4,Aw 5,Af 6]
def iz:LSO:=[Aa 8 0,Aa 9 1,As 10 168 8 9,Aa 7 10]
def iy:LSO:=[Aa 11 7,AL 12 11 0]
def ix:LSO:=[Aa 13 0,Aa 14 7,o1 15 (.slS (tm 13) none (some (tm 14))),Aa 16 0,Aa 17 7,Aa 18 1,Ax 19 18,AX 20 17 19,BQ 21 16 20,Aa 4 15,Aa 5 21,A0 6]
def iw:LSO:=[Aa 22 0,Aa 4 22,Aw 5,Af 6]
def cU:aK:=⟨23,(asI iA [] (.seq (asI iz C7 (asI iy C4 (asK 12 (.sdreg ix [.pure,.pure,(.read 0 0),.pure,.pure,.pure,(.read 0 0),.pure,(.read 0 0),.pure] Dk)))) (asI iw CJ .ret))),[(.tmp 4),(.tmp 5),(.tmp 6)]⟩
attribute [push_cast] iA iz iy ix iw
theorem gU:asN 173=asO cU:=asR
attribute [push_cast] Ox aaA Tc Fp Te Tf Xi aaB cX dv jx
set_option maxHeartbeats 8000000
set_option maxRecDepth 100000
theorem Y7{n:Int}(b : -2147483648<=n)(a:n<2147483648):IntKind.i32.wrap n=n:=by simp only[IntKind.wrap,IntKind.bits,IntKind.signed];simp;omega
theorem aac{p:Nat}(h:p<s.length)(a:(s.getD p 0).toNat<128):Yr s p=((s.getD p 0).toNat,1):=by
 have e:s.getD p 0=s[p]:=by simp[h]
 rw[e]at a⊢;exact decode_ascii ⟨⟨s⟩⟩ p h a
theorem abW{p:Nat}(h:p<s.length)(a:128<=(s.getD p 0).toNat):128<=(Yr s p).1:=by
 have e:s.getD p 0=s[p]:=by simp[h]
 rw[e]at a;exact(decode_high ⟨⟨s⟩⟩ p h a).1
def o6(x:Int):Bool:=(decide (97<=x)&&decide (x<=122)) ||(decide (65<=x)&&decide (x<=90))
theorem o4{x:Int}{L:List Blk}{K:apr}(h:K (.bool (o6 x)) L):apq 174 [.int .i32 x] L K:=by
 refine apo aaz ?_
 all_goals (first|refine ac rfl (Kto h ?_)|refine aa (Kto h ?_)|refine ac (by simp only[AV.refs,AV.refsL, *];rfl) (Kto h ?_)|refine aY (ac rfl (Kto h ?_))|(trace_state;fail))
 all_goals (first|(simp[o6, *];done)|(simp[o6, *];omega)|(simp[o6, *];intros;omega)|(simp_all[Hid,o6];done)|(simp_all[Hid,o6];omega))
def Ty(x:Int):Bool:=o6 x ||(decide (48<=x)&&decide (x<=57)) ||decide (x=45)
def jG(s:List UInt8):Bool:=decide (1<=s.length)&&decide (s.length<=32)&&o6 ((s.getD 0 0).toNat:Int)&&s.all λc=>Ty (c.toNat:Int)
theorem abo{x:Int}(h:128<=x):Ty x=false:=by simp only[Ty,o6,arO,ar3,decide_eq_false_iff_not];omega
theorem aci{s:List UInt8}{L:List Blk}{K:apr}(h:K (.bool (jG s)) L):apq 120 [.str s] L K:=by
 have no:jG s=false->K (.bool false) L:=λe=>by rw[<- e];exact h
 replace no:=hid no;replace h:=hid h;refine ab ac0 (by simp[Xh]) ?_;simp only[Xh,ag];by_cases B:s=[];subst B;refine wk ?_;exact aa (no.o rfl);have z:0<s.length:=aqi.2 B;by_cases H:(32:Int)<(s.length:Int);refine wk ?_;exact aa (no.o (by simp[jG];omega));obtain⟨c0,m⟩:=apl (s.getD 0 0);have A:=c0.toNat_lt;have w0:IntKind.i32.wrap (c0.toNat:Int)=(c0.toNat:Int):=Y7 asP asP;cases hl0:o6 (c0.toNat:Int)with
 | false =>
   have kk1:=@hid _ @o4;refine wk ?_;refine aa (no.o ?_);simp only[jG,m,hl0,ar0,aqg]
 | true =>
   have kk1:=@hid _ @o4;refine wk ?_;refine aj (λn T' L'=>∃p,n=s.length-p/\p<=s.length/\Hid (∀c∈s.take p,Ty (c.toNat:Int)=true)/\T'=[(20,.ptr L.length 0)]/\L'=L++[.siter s p]) asT ⟨0,rfl,apv _,hid asQ,rfl,rfl⟩ ?_;rintro _ _ _ ⟨p,rfl,F,f,rfl,rfl⟩;by_cases a:p<s.length
   .obtain⟨c,hc⟩:=apl (s.getD p 0);have i:c∈s:=(by rw[<- hc];simp[a]);have j:s.take (p+1)=s.take p++[c]:=(by rw[apK a,<- hc];simp[a]);replace j:=hid j;have b:Ty (c.toNat:Int)=false->K (.bool false) L:=λe=>no.o (by have:(s.all λc=>Ty (c.toNat:Int))=false:=List.all_eq_false.2 ⟨c,i,by rw[e];simp⟩;simp only[jG,this,ar0])
    replace b:=hid b;by_cases y:c.toNat<128
    .have t:=aac a (by rw[hc];exact y);rw[hc]at t;obtain⟨x,v⟩:∃x:Nat,c.toNat=x:=⟨_,rfl⟩;rw[v]at t b;have r:=hid v;clear v hc i y A w0;cases k:o6 (x:Int)with
     | true =>
       have kk1:=@hid _ @o4;refine wk ?_;refine asU asP asT ⟨p+1,rfl,a,hid λd g=>?_,rfl,rfl⟩;rw[j.o]at g;rcases apy.1 g with h|h
       .exact f.o d h
       .rw[apT.1 h,r.o,Ty,k];rfl
     | false =>
       repeat' first
        |refine bG ?_
        | (first|refine bw asR ?_|refine aN asR ?_|refine aQ ?_|refine cS ?_|refine bJ (fun _=>?_)|refine aF ?_|refine bA ?_|refine o4 ?_|refine bf (o4 ⟨rfl,rfl⟩) (o4 ⟨rfl,rfl⟩) ?_|refine aM (o4 ⟨rfl,rfl⟩) ?_)
          refine sm ?_
        | (first|refine bq asR ?_|refine bm ?_|refine aP ?_|refine bz ?_|refine bO (aE ?_))
          refine sl ?_
        |exact bK
        |first|apply bL|apply br|apply bM|apply bu|apply bN|apply bv
        |refine aT ?_
        |refine aO ?_
        |first|refine aR rfl ?_|refine aS rfl ?_|refine aB rfl ?_ ?_|refine aW rfl (λ_=>?_) (λ_=>?_)|refine aV rfl (λ_=>?_) (λ_=>?_)
        |((first|refine aA (λ_=>?_) (λ_=>?_)|refine aD (λ_=>?_) (λ_=>?_))<;>try refine sm ?_)
        |refine And.intro trivial ?_
        |refine And.intro asP ?_
        |refine bd rfl (λ_=>?_) (λ_=>?_)
        |refine And.intro ?_ ?_
       .rename_i hb;refine ac rfl (b.o ?_);simp only[Ty,k,aqG,arO,ar3,decide_eq_false_iff_not];omega
       .rename_i hb;refine asU asP asT ⟨p+1,rfl,a,hid λd g=>?_,rfl,rfl⟩;rw[j.o]at g;rcases apy.1 g with h|h
        .exact f.o d h
        .rw[apT.1 h,r.o];simp only[Ty,k,aqG,aqf,apw,decide_eq_true_eq];omega
    .have hh:=abW a (by rw[hc];omega);obtain⟨⟨x,G⟩,t⟩:∃q,Yr s p=q:=⟨_,rfl⟩;rw[t]at hh;simp only at hh;have l:=hid (b.o (abo (show(128:Int)<=(c.toNat:Int)by omega)));have k:o6 (x:Int)=false:=by have:=abo (show(128:Int)<=(x:Int)by omega);simp only[Ty,arO]at this;exact this.1.1
     have E:¬(x:Int)<48:=asP;have I:(57:Int)<(x:Int):=asP;have D:¬(x:Int)=45:=asP;clear hc i A w0;have kk1:=@hid _ @o4;refine wk ?_;exact ac rfl l.o
   .have hke:p=s.length:=asP;subst hke;have u:=h.o;have e:jG s=true:=by
     have C:(s.all λc=>Ty (c.toNat:Int))=true:=apF.2 λc w=>f.o c (by rw[apJ];exact w)
     simp only[jG,C,m,hl0,arJ];simp;omega
    rw[e]at u;replace u:=hid u;clear e;refine wk ?_;exact ac rfl u.o
variable {L:List Blk}{K:apr}
abbrev Ava:=List UInt8×List UInt8
variable {r:List Ava}
def pD(a:Ava):List AV:=[.str a.1,.str a.2]
def bg(r:List Ava):List AV:=r.flatMap pD
abbrev afa(r:List Ava)(cap:Option Nat):AV:=.sl (bg r) r.length cap
def lZ(r:List Ava)(typ:List UInt8):Bool:=r.any λa=>decide (ak a.1=ak typ)
theorem anC{a:Ava}(d:(a.1.length:Int)<=100000)(e:(typ.length:Int)<=100000)(c:L[ip]?=some (.cells [.str typ]))(h:K (.bool (decide (ak a.1=ak typ))) L):
  apq 176 [.agg (pD a),.ptr ip 0] L K:=by
 obtain⟨t,v⟩:=a;replace h:=hid h;have b:ip<L.length:=(aps.1 c).1;have g1:(L++[Blk.cells [.str t,.str v]])[ip]?=some (.cells [.str typ]):=by rw[apx b];exact c
 simp only[pD];refine ab aba (by simp[Td]) ?_;simp only[Td,ag];have kk1:=@asW _ _ _ _ (Oa d);have kk2:=@asW _ _ _ _ (Oa e);refine wk ?_;exact ac rfl h.o
theorem dp(r:List Ava):(bg r).length=r.length*2:=by
 induction r with
 |nil=>rfl
 |cons a r ih=>simp only[bg,ap5,apB,pD,apC,ap9]at ih⊢;omega
theorem gQ:∀{r:List Ava}{k:Nat},k<r.length->((bg r).drop (k*2)).take 2=pD (r.getD k ([],[]))
 |a::r,0,_=>rfl
 |a::r,k+1,h=>by have b:=@gQ r k (by simpa using h);rw[show(k+1)*2=k*2+1+1 by omega];simpa[bg,pD]using b
theorem ajR(A:r.length<=100000)(p:∀a∈r,(a.1.length:Int)<=100000)(y:(typ.length:Int)<=100000)(w:L[ip]?=some (.cells [.str typ]))(i:lZ r typ=false->K (.int .i64 (-1)) L)(c:∀k:Nat,lZ r typ=true->K (.int .i64 k) L):apq 204 [afa r cap,.func 176 [.ptr ip 0]] L K:=by
 replace i:=hid i;replace c:=hid c;replace p:=hid p;refine apo ji ?_;refine aj (λn T' L'=>∃(k:Nat),n=r.length-k/\k<=r.length/\Hid (lZ (r.take k) typ=false)/\T'=[(8,.int .i64 (k:Int)),(7,.int .i64 r.length),(0,afa r cap),(1,.func 176 [.ptr ip 0])]/\L=L') (CutS (b:=apt _)) ⟨0,rfl,apv _,hid rfl,rfl,rfl⟩ ?_;rintro _ _ _ ⟨k,rfl,z,v,rfl,rfl⟩;by_cases d:k<r.length;have g1:(k:Int)<(r.length:Int):=asP;have C:=apn k asP;have x:=gQ d;have B:k*2+2<=(bg r).length:=by rw[dp];omega
 obtain⟨a,m⟩:=apl (r.getD k ([],[]));have h:a∈r:=by rw[<- m];simp[d]
 have j:r.take (k+1)=r.take k++[a]:=by rw[apK d,<- m];simp[d]
 rw[m]at x;have u:lZ (r.take (k+1)) typ=decide (ak a.1=ak typ):=by have:=v.o;simp only[lZ]at this⊢;rw[j,ar4,this];simp
 have f:decide (ak a.1=ak typ)=true->lZ r typ=true:=λe=>aqZ.2 ⟨a,h,e⟩
 replace f:=hid f;replace u:=hid u;replace j:=hid j;have q:=hid (p.o a h);clear m h;refine wk ?_;refine anC q.o y w ?_;refine sk ?_;cases l:decide (ak a.1=ak typ)with
 | true =>
   have s:=hid (c.o k (f.o l));replace l:=hid l;refine wk ?_;exact aa s.o
 | false =>
   replace l:=hid l;refine wk ?_;exact asU asP (CutS (b:=apt _)) ⟨k+1,rfl,d,hid (by rw[u.o,l.o]),rfl,rfl⟩
 have t:k=r.length:=asP;subst t;have g1:¬(r.length:Int)<(r.length:Int):=asP;have g:=v.o;rw[apJ]at g;have s:=hid (i.o g);clear g;refine wk ?_;exact aa s.o
theorem aey(i:r.length<=100000)(c:∀a∈r,(a.1.length:Int)<=100000)(f:(typ.length:Int)<=100000)(d:L[ip]?=some (.cells [.str typ]))(h:K (.bool (lZ r typ)) L):
  apq 175 [afa r cap,.func 176 [.ptr ip 0]] L K:=by
 replace h:=hid h;refine apo iN ?_;refine ajR i c f d (λe=>?_) (λk e=>?_);have b:=h.o;rw[e]at b;replace b:=hid b;refine asX ?_;exact aa b.o;have b:=h.o;rw[e]at b;replace b:=hid b;have g:(0:Int)<=(k:Int):=asP;refine asX ?_;exact aa b.o
theorem amO(d:r.length<=100000)(c:∀a∈r,(a.1.length:Int)<=100000)(b:(typ.length:Int)<=100000)(h:K (.bool (lZ r typ)) L):
  apq 121 [afa r cap,.str typ] L K:=by
 replace h:=hid h;refine apo aeB ?_;refine aey d c b asQ ?_;refine asX ?_;exact ac rfl h.o
theorem iD{a:List UInt8}{c:UInt8}{L:List Blk}{K:apr}(h:K (.int .i64 (Lib.indexByte a c)) L):apq 177 [.str a,.int .u8 c.toNat] L K :=
 dE Tryz.func177 rfl asR (λw0 S0 E w vs g b=>by simp only[VRL,VR]at b;obtain⟨_,_,rfl,rfl,_,_,rfl,rfl,rfl⟩:=b;exact(Tryz.strings_IndexByte ⟨⟨a⟩⟩ c.toNat w).mono λe w' ⟨f,d⟩=>⟨_,f,by simp[VR],by subst d;exact EC.refl _⟩) h
theorem rI(a:List UInt8)(c:UInt8):(0<=Lib.indexByte a c)↔c∈a:=by
 induction a with
 |nil=>simp[Lib.indexByte]
 | cons b l ih =>
   have e:=Lib.indexByte_ge l c;unfold Lib.indexByte;by_cases d:b=c
   .simp[d]
   .have e1:(b == c)=false:=(by simpa using d);rw[e1];simp only[apL,if_false];have f:c∈b::l↔c∈l:=(by simp[Ne.symm d]);rw[f,<- ih];split
    .rename_i h;simp at h;omega
    .rename_i h;simp at h;omega
theorem bQ(c d:UInt8):(c.toNat:Int)=(d.toNat:Int)↔c=d:=by constructor;intro h;exact ark.1 asP;rintro rfl;rfl
def wrB(i n:Nat)(c:UInt8):List UInt8 :=
 if c=0 then[92,48,48]else if(i=0/\(c=32\/c=35))\/(i+1=n/\c=32)\/c∈[34,43,44,59,60,62,92]then[92,c]else[c]
def wrL(n:Nat):Nat->List UInt8->List UInt8
 |_,[]=>[]
 |i,c::s=>wrB i n c++wrL n (i+1) s
def gS(s:List UInt8):List UInt8:=wrL s.length 0 s
theorem ak2(i n:Nat)(c:UInt8):(wrB i n c).length<=3:=by unfold wrB;split;simp;split<;>simp
theorem iJ(C:s.length<=100000)(h:K (.str (gS s)) L):apq 131 [.str s] L K:=by
 replace h:=hid h;have B:IntKind.i64.wrap ((s.length:Int)-1)=(s.length:Int)-1:=ae asP asP;refine apo YM ?_;refine bR (l:=[]) (n:=0) 3 1 rfl (apU 1).symm ?_;refine aj (λn T' L'=>∃(i m:Nat) (b:List UInt8),n=s.length-i/\i<=s.length/\m<=3*i/\Hid (m=b.length/\b++wrL s.length i (s.drop i)=gS s)/\T'=[(10,.int .i64 (i:Int)),(9,.int .i64 s.length),(8,.sl (u8s s) s.length none),(3,.gsl (u8s b) m L.length 1),(0,.str s)]/\L'=L++[.spare m 1]) asT ⟨0,0,[],rfl,apv _,asP,hid ⟨rfl,rfl⟩,rfl,rfl⟩ ?_;rintro _ _ _ ⟨i,m,b,rfl,x,A,p,rfl,rfl⟩;by_cases d:i<s.length
 .have g1:(i:Int)<(s.length:Int):=asP;have y:=apn i asP;obtain⟨c,v⟩:=apl (s.getD i 0);have g3:(u8s s).getD i .undef=.int .u8 c.toNat:=(by rw[<- v];simp[u8s,d]);have j:s.drop i=c::s.drop (i+1):=(by rw[apY d,<- v];simp[d]);have a:=p.o.2;rw[j]at a;simp only[wrL]at a;have g4:=kB;have z:(u8s s).length=s.length:=(by simp[u8s]);clear v j;replace a:=hid a
  repeat' first
   |refine bG ?_
   | (first|refine bw asR ?_|refine aN asR ?_|refine aQ ?_|refine cS ?_|refine bJ (fun _=>?_)|refine aF ?_|refine bA ?_|refine iD ?_|refine bf (iD ⟨rfl,rfl⟩) (iD ⟨rfl,rfl⟩) ?_|refine aM (iD ⟨rfl,rfl⟩) ?_)
     refine sm ?_
   | (first|refine bq asR ?_|refine bm ?_|refine aP ?_|refine bz ?_|refine bO (aE ?_))
     refine sl ?_
   |exact bK
   |first|apply bL|apply br|apply bM|apply bu|apply bN|apply bv
   |refine aT ?_
   |refine aO ?_
   |first|refine aR rfl ?_|refine aS rfl ?_|refine aB rfl ?_ ?_|refine aW rfl (λ_=>?_) (λ_=>?_)|refine aV rfl (λ_=>?_) (λ_=>?_)
   |((first|refine aA (λ_=>?_) (λ_=>?_)|refine aD (λ_=>?_) (λ_=>?_))<;>try refine sm ?_)
   |refine And.intro trivial ?_
   |refine And.intro asP ?_
   |refine bd rfl (λ_=>?_) (λ_=>?_)
   |refine And.intro ?_ ?_
  rfl;omega;rename_i k;have f:=(bQ c 0).1 k;rw[show u8s b++AV.frzL (u8s [92,48,48])=u8s (b++[92,48,48])by simp[u8s,AV.frzL,AV.frz]];refine asU asP asS ⟨i+1,m+3,b++[92,48,48],rfl,d,asP,hid ⟨by simp[p.o.1],?_⟩,rfl,rfl⟩;rw[<- a.o,wrB,if_pos f,apG];rename_i k w;have f:¬c=0:=λe=>k ((bQ c 0).2 e)
  have q:(i=0/\(c=32\/c=35))\/(i+1=s.length/\c=32)\/c∈[34,43,44,59,60,62,92]:=by rcases w with(⟨t,g⟩|⟨t,g⟩)|e;exact .inl ⟨asP,g.imp (bQ c 32).1 (bQ c 35).1⟩;exact .inr (.inl ⟨asP,(bQ c 32).1 g⟩);exact .inr (.inr ((rI _ _).1 e))
  rw[show u8s b++[AV.int IntKind.u8 92,AV.int IntKind.u8 (c.toNat:Int)]=u8s (b++[92,c])by simp[u8s]];refine asU asP asS ⟨i+1,m+1+1,b++[92,c],rfl,d,asP,hid ⟨by simp[p.o.1],?_⟩,rfl,rfl⟩;rw[<- a.o,wrB,if_neg f,if_pos q,apG];rename_i k w;have f:¬c=0:=λe=>k ((bQ c 0).2 e)
  have q:¬((i=0/\(c=32\/c=35))\/(i+1=s.length/\c=32)\/c∈[34,43,44,59,60,62,92]):=λq=>w (by rcases q with⟨t,g⟩|⟨t,g⟩|e;exact .inl (.inl ⟨asP,g.imp (bQ c 32).2 (bQ c 35).2⟩);exact .inl (.inr ⟨asP,(bQ c 32).2 g⟩);exact .inr ((rI _ _).2 e))
  rw[show u8s b++[AV.int IntKind.u8 (c.toNat:Int)]=u8s (b++[c])by simp[u8s]];refine asU asP asS ⟨i+1,m+1,b++[c],rfl,d,asP,hid ⟨by simp[p.o.1],?_⟩,rfl,rfl⟩;rw[<- a.o,wrB,if_neg f,if_neg q,apG]
 have u:i=s.length:=asP;subst u;have g1:¬(s.length:Int)<(s.length:Int):=asP;have t:=kB b;have g:=ju b;have e:=p.o.2;rw[aqe,wrL,ap4]at e;have r:=h.o;rw[<- e]at r;replace r:=hid r;clear e;refine wk ?_;exact ac rfl r.o
abbrev rP:List UInt8:=[34,43,44,59,60,62,92,32,35,61]
def ja:List UInt8->Bool->List UInt8->Option (List UInt8×List UInt8×Bool)
 |b,bl,[]=>some (b,[], !bl)
 | b,bl,c::s=>if c=44\/c=43 then some (b,c::s, !bl)
   else if c≠92 then(if c=0\/c∈([34,59,60,62]:List UInt8)\/(b=[]/\(c=32\/c=35))then none else ja (b++[c]) (decide (c=32)) s)
   else match s with
    |[]=>none
    | d::s1=>if d∈rP then ja (b++[d]) false s1 else match s1 with
      |[]=>none
      | e::s2=>match V5 d e with
        |none=>none
        |some x=>ja (b++[x]) false s2
def agX(o:Option (List UInt8×List UInt8×Bool)):AV:=match o with
 |none=>.tup [.str [],.str [],.bool false]
 |some (v,r,f)=>.tup [.str v,.str r,.bool f]
theorem rM  :ja b bl []=some (b,[], !bl):=by rw[ja.eq_def]
theorem rF{c:UInt8}(h:c=44\/c=43):ja b bl (c::s)=some (b,c::s, !bl):=by rw[ja.eq_def];simp only[if_pos h]
theorem nq{c:UInt8}(h:¬(c=44\/c=43))(a:c≠92):ja b bl (c::s)=if c=0\/c∈([34,59,60,62]:List UInt8)\/(b=[]/\(c=32\/c=35))then none else ja (b++[c]) (decide (c=32)) s:=by rw[ja.eq_def];simp only[if_neg h,if_pos a]
theorem OG  :ja b bl [92]=none:=by rw[ja.eq_def];rfl
theorem wR(h:d∈rP):ja b bl (92::d::s)=ja (b++[d]) false s:=by rw[ja.eq_def];simp only[show ¬((92:UInt8)=44\/(92:UInt8)=43)by decide,if_false,ne_eq,not_true_eq_false,if_pos h]
theorem OF(h:¬d∈rP):ja b bl [92,d]=none:=by rw[ja.eq_def];simp only[show ¬((92:UInt8)=44\/(92:UInt8)=43)by decide,if_false,ne_eq,not_true_eq_false,if_neg h]
theorem Ts{e:UInt8}(h:¬d∈rP):ja b bl (92::d::e::s)=match V5 d e with|none=>none|some x=>ja (b++[x]) false s:=by rw[ja.eq_def];simp only[show ¬((92:UInt8)=44\/(92:UInt8)=43)by decide,if_false,ne_eq,not_true_eq_false,if_neg h]
theorem nh{i:Nat}(h:i<s.length):s.drop i=s.getD i 0::s.drop (i+1):=by rw[apY h];simp[h]
theorem ak4(hs:s.length<=100000)(h:K (agX (ja [] false s)) L):apq 122 [.str s] L K:=by
 replace h:=hid h;refine apo aa9 ?_;refine bR (l:=[]) (n:=0) 5 1 rfl (apU 1).symm ?_;refine aj (λn T' L'=>∃(i m:Nat) (b:List UInt8) (bl:Bool),n=s.length-i/\i<=s.length/\m<=i/\Hid (m=b.length/\ja b bl (s.drop i)=ja [] false s)/\T'=[(7,.int .i64 (i:Int)),(6,.bool bl),(5,.gsl (u8s b) m L.length 1),(0,.str s)]/\L'=L++[.spare m 1]) asT ⟨0,0,[],false,rfl,apv _,asP,hid ⟨rfl,rfl⟩,rfl,rfl⟩ ?_;rintro _ _ _ ⟨i,m,b,bl,rfl,U,Y,y,rfl,rfl⟩;have W:=kB b;have S:=ju b;by_cases z:i<s.length
 .have g1:(i:Int)<(s.length:Int):=asP;have g2:=apn i asP;obtain⟨c,P⟩:=apl (s.getD i 0);have j:=nh z;rw[P]at j;have a:=y.o.2;rw[j]at a;have D:(s.drop i).take (s.length-i)=s.drop i:=ap2 asQ;have O:(i:Int)<=(s.length:Int):=asP;by_cases p:c=44\/c=43;rw[rF p]at a;have f:=h.o;rw[<- a]at f;simp only[agX]at f;rw[<- j]at f;replace f:=hid f;have B:((c.toNat:Int)=44)\/((c.toNat:Int)=43):=p.imp (bQ c 44).2 (bQ c 43).2;clear a p j;rcases B with B|B;refine wk ?_;exact ac rfl f.o;refine wk ?_;exact ac rfl f.o
  .have B:¬(c.toNat:Int)=44:=λe=>p (.inl ((bQ c 44).1 e))
   have Z:¬(c.toNat:Int)=43:=λe=>p (.inr ((bQ c 43).1 e))
   by_cases w:c=92;subst w;have g3:IntKind.i64.wrap ((i:Int)+2)=(i:Int)+2:=ae asP asP;have g4:IntKind.i64.wrap ((i:Int)+3)=(i:Int)+3:=ae asP asP;have X:IntKind.i64.wrap ((i:Int)+1+1)=(i:Int)+1+1:=ae asP asP;have R:IntKind.i64.wrap ((i:Int)+2+1)=(i:Int)+2+1:=ae asP asP;have t1:((i:Int)+1).toNat=i+1:=asP;have t3:((i:Int)+3).toNat=i+3:=asP;by_cases I:i+1<s.length;have J:(i:Int)+1<(s.length:Int):=asP;obtain⟨d,M⟩:=apl (s.getD (i+1) 0);have g:=nh I;rw[M]at g;rw[g]at a;by_cases q:d∈rP;rw[wR q]at a;have N:=(rI rP d).2 q;clear j g;replace a:=hid a;have kk1:=@hid _ @iD;refine wk ?_;rw[show u8s b++[AV.int IntKind.u8 (d.toNat:Int)]=u8s (b++[d])by simp[u8s],show decide (((UInt8.toNat 92:Nat):Int)=32)=false from rfl];refine asU asP asS ⟨i+1+1,m+1,b++[d],false,rfl,I,asP,hid ⟨by simp[y.o.1],a.o⟩,rfl,rfl⟩;have N:¬0<=Lib.indexByte rP d:=λe=>q ((rI rP d).1 e)
   by_cases H:i+2<s.length;have F:(i:Int)+2<(s.length:Int):=asP;have f4:(i:Int)+1<=(i:Int)+3:=asP;have f5:(i:Int)+3<=(s.length:Int):=asP;have f6:(0:Int)<=(i:Int)+1:=asP;obtain⟨e,Q⟩:=apl (s.getD (i+2) 0);have k:=nh H;rw[Q]at k;rw[k,Ts q]at a;have G:(s.drop (i+1)).take (i+3-(i+1))=[d,e]:=by rw[g,k,show i+3-(i+1)=2 by omega];rfl
   clear j g k;replace a:=hid a;have kk1:=@hid _ @iD;refine wk ?_;refine aiE ?_;rcases v:V5 d e with _|x;rw[show SQ d e=.tup [.str [],.bool false]by simp only[SQ,v]];have f:=h.o;rw[<- a.o,v]at f;simp only[agX]at f;replace f:=hid f;clear v;refine asX ?_;exact ac rfl f.o;rw[show SQ d e=.tup [.str [x],.bool true]by simp only[SQ,v]];have u:=a.o;rw[v]at u;simp only at u;replace u:=hid u;have V:[x].getD 0 0=x:=rfl;clear v a;refine asX ?_;rw[show u8s b++[AV.int IntKind.u8 (x.toNat:Int)]=u8s (b++[x])by simp[u8s],show decide (((UInt8.toNat 92:Nat):Int)=32)=false from rfl];refine asU asP asS ⟨i+2+1,m+1,b++[x],false,rfl,H,asP,hid ⟨by simp[y.o.1],u.o⟩,rfl,rfl⟩;have F:¬(i:Int)+2<(s.length:Int):=asP;have t:s.drop (i+1+1)=[]:=aq6 asP;rw[t,OF q]at a;have f:=h.o;rw[<- a]at f;replace f:=hid f;clear j g a;have kk1:=@hid _ @iD;refine wk ?_;exact ac rfl f.o;have J:¬(i:Int)+1<(s.length:Int):=asP;have F:¬(i:Int)+2<(s.length:Int):=asP;have t:s.drop (i+1)=[]:=aq6 asP;rw[t,OG]at a;have f:=h.o;rw[<- a]at f;replace f:=hid f;clear j a;have kk1:=@hid _ @iD;refine wk ?_;exact ac rfl f.o
   .rw[nq p w]at a;have T:¬(c.toNat:Int)=92:=λe=>w ((bQ c 92).1 e)
    clear j;replace a:=hid a
    repeat' first
     |refine bG ?_
     | (first|refine bw asR ?_|refine aN asR ?_|refine aQ ?_|refine cS ?_|refine bJ (fun _=>?_)|refine aF ?_|refine bA ?_|refine iD ?_|refine bf (iD ⟨rfl,rfl⟩) (iD ⟨rfl,rfl⟩) ?_|refine aM (iD ⟨rfl,rfl⟩) ?_)
       refine sm ?_
     | (first|refine bq asR ?_|refine bm ?_|refine aP ?_|refine bz ?_|refine bO (aE ?_))
       refine sl ?_
     |exact bK
     |first|apply bL|apply br|apply bM|apply bu|apply bN|apply bv
     |refine aT ?_
     |refine aO ?_
     |first|refine aR rfl ?_|refine aS rfl ?_|refine aB rfl ?_ ?_|refine aW rfl (λ_=>?_) (λ_=>?_)|refine aV rfl (λ_=>?_) (λ_=>?_)
     |((first|refine aA (λ_=>?_) (λ_=>?_)|refine aD (λ_=>?_) (λ_=>?_))<;>try refine sm ?_)
     |refine And.intro trivial ?_
     |refine And.intro asP ?_
     |refine bd rfl (λ_=>?_) (λ_=>?_)
     |refine And.intro ?_ ?_
    rename_i v;have r:c=0\/c∈([34,59,60,62]:List UInt8)\/(b=[]/\(c=32\/c=35)):=by rcases v with(e|e)|⟨e,C⟩;exact .inl ((bQ c 0).1 e);exact .inr (.inl ((rI _ _).1 e));refine .inr (.inr ⟨aqc.1 ?_,C.imp (bQ c 32).1 (bQ c 35).1⟩);have:=y.o.1;omega
    have f:=h.o;rw[<- a.o,if_pos r]at f;exact ac rfl f;rename_i v;have r:¬(c=0\/c∈([34,59,60,62]:List UInt8)\/(b=[]/\(c=32\/c=35))):=λe=>v (by rcases e with e|e|⟨e,C⟩;exact .inl (.inl ((bQ c 0).2 e));exact .inl (.inr ((rI _ _).2 e));refine .inr ⟨?_,C.imp (bQ c 32).2 (bQ c 35).2⟩;have:=y.o.1;rw[e]at this;simp at this;omega)
    have A:decide ((c.toNat:Int)=32)=decide (c=32):=by have:=bQ c 32;simp only[decide_eq_decide];exact this
    rw[show u8s b++[AV.int IntKind.u8 (c.toNat:Int)]=u8s (b++[c])by simp[u8s],A];refine asU asP asS ⟨i+1,m+1,b++[c],decide (c=32),rfl,z,asP,hid ⟨by simp[y.o.1],?_⟩,rfl,rfl⟩;rw[<- a.o,if_neg r]
 have E:i=s.length:=asP;subst E;have g1:¬(s.length:Int)<(s.length:Int):=asP;have f:=h.o;rw[<- y.o.2,aqe,rM]at f;simp only[agX]at f;replace f:=hid f;have D:(s.drop s.length).take (s.length-s.length)=[]:=asQ;refine wk ?_;exact ac rfl f.o
def lQ:List UInt8->Option (List UInt8×List UInt8)
 |[]=>none
 | c::s=>if c=61 then some ([],s) else match lQ s with
   |none=>none
   |some (a,b)=>some (c::a,b)
theorem aae:∀s:List UInt8,(Lib.indexByte s 61=-1/\lQ s=none)\/∃n:Nat,n<s.length/\Lib.indexByte s 61=(n:Int)/\lQ s=some (s.take n,s.drop (n+1))
 |[]=>.inl ⟨rfl,rfl⟩
 | c::s=>by
   by_cases a:c=61
   .subst a;exact .inr ⟨0,asQ,by simp[Lib.indexByte],by simp[lQ]⟩
   .have e1:(c == 61)=false:=(by simpa using a);unfold Lib.indexByte;rw[e1];simp only[apL,if_false,lQ,if_neg a];rcases aae s with⟨d,b⟩|⟨n,e,d,b⟩
    .exact .inl ⟨by rw[d];rfl,by rw[b]⟩
    .refine .inr ⟨n+1,by simp;omega,?_,by rw[b];simp⟩;rw[d];have:((n:Int) == -1)=false:=asQ;rw[this];simp
def aad(s:List UInt8):AV:=match lQ s with
 |some (a,b)=>.tup [.str a,.str b,.bool true]
 |none=>.tup [.str s,.str [],.bool false]
theorem aec{a:List UInt8}{c:UInt8}{L:List Blk}{K:apr}(h:K (.int .i64 (Lib.indexByte a c)) L):apq 168 [.str a,.str [c]] L K :=
 dE Tryz.func168 rfl asR (λw0 S0 E w vs g b=>by simp only[VRL,VR]at b;obtain⟨_,_,rfl,rfl,_,_,rfl,rfl,rfl⟩:=b;exact(Tryz.stringslite_Index_one ⟨⟨a⟩⟩ c w).mono λe w' ⟨f,d⟩=>⟨_,f,by simp[VR],by subst d;exact EC.refl _⟩) h
theorem ako(j:s.length<=100000)(h:K (aad s) L):apq 173 [.str s,.str [61]] L K:=by have d:[(61:UInt8)].length=1:=rfl;rcases aae s with⟨b,a⟩|⟨n,c,b,a⟩;simp only[aad,a]at h;replace h:=hid h;clear a;refine ab gU (by simp[cU]) ?_;simp only[cU,ag];have kk1:=@hid _ @aec;refine wk ?_;exact aa h.o;simp only[aad,a]at h;replace h:=hid h;have g1:(0:Int)<=(n:Int):=asP;have i:=apn n asP;have g3:(n:Int)<=(s.length:Int):=asP;have g4:(n:Int)+1<=(s.length:Int):=asP;have e:(0:Int)<=(n:Int)+1:=asP;have f:((n:Int)+1).toNat=n+1:=asP;have g:(s.drop (n+1)).take (s.length-(n+1))=s.drop (n+1):=ap2 asQ;clear a;refine ab gU (by simp[cU]) ?_;simp only[cU,ag];have kk1:=@hid _ @aec;refine wk ?_;exact aa h.o
theorem aoH(c:s.length<=100000)(h:K (aad s) L):apq 119 [.str s,.str [61]] L K:=by
 rcases hc:lQ s with _|⟨a,b⟩
 all_goals
  simp only[aad,hc]at h;replace h:=hid h
 refine apo Eu ?_;refine ako c ?_;simp only[aad,hc];refine asX ?_;exact aa h.o;refine apo Eu ?_;refine ako c ?_;simp only[aad,hc];refine asX ?_;exact aa h.o
abbrev Rdn:=List Ava
abbrev aq(r:Rdn):AV:=afa r none
def tP:Nat->List Rdn->Rdn->List UInt8->List Rdn×Int
 |0,_,_,_=>([],4)
 | f+1,out,now,s=>if out.length=32\/now.length=8 then ([],9) else match lQ s with
   |none=>([],4)
   | some (typ,rest)=>if jG typ=false then ([],4) else if lZ now typ=true then ([],21) else match ja [] false rest with
     |none=>([],4)
     | some (v,r2,ok)=>if ok=false then ([],4) else match r2 with
       |[]=>(out++[now++[(typ,v)]],0)
       |c::s'=>if c=44 then tP f (out++[now++[(typ,v)]]) [] s' else tP f out (now++[(typ,v)]) s'
def dW(s:List UInt8):List Rdn×Int:=if 4096<s.length then([],5)else if s=[]then([],0)else tP (s.length+1) [] [] s
def aa0(p:List Rdn×Int):AV:=.tup [.sl (p.1.map aq) p.1.length none,.int .i64 p.2]
theorem aet:∀{s a b:List UInt8},lQ s=some (a,b)->b.length<s.length/\a.length<=s.length
 |[],a,b,h=>by simp[lQ]at h
 | c::s,a,b,h=>by
   simp only[lQ]at h;split at h
   .simp only[apu,apI]at h;obtain⟨rfl,rfl⟩:=h;simp
   .split at h
    .cases h
    .rename_i a' b' hc;simp only[apu,apI]at h;obtain⟨rfl,rfl⟩:=h;have:=aet hc;simp;omega
theorem aiC:∀(n:Nat){s b:List UInt8}{bl:Bool}{v r:List UInt8}{ok:Bool},s.length<=n->ja b bl s=some (v,r,ok)->r.length<=s.length:=by
 intro n;induction n with
 | zero =>
   intro s b bl v r ok f h;obtain rfl:=aqc.1 (Nat.le_zero.1 f);rw[rM]at h;cases h;simp
 | succ n ih =>
   intro s b bl v r ok f h;cases s with
   |nil=>rw[rM]at h;cases h;simp
   | cons c s =>
     simp only[apC]at f;by_cases i:c=44\/c=43
     .rw[rF i]at h;cases h;simp
     by_cases a:c=92
     .subst a;cases s with
      |nil=>rw[OG]at h;cases h
      | cons d s =>
        by_cases g:d∈rP
        .rw[wR g]at h;have:=ih (by simp at f;omega) h;simp;omega
        .cases s with
         |nil=>rw[OF g]at h;cases h
         | cons e s =>
           rw[Ts g]at h;split at h
           .cases h
           .have:=ih (by simp at f;omega) h;simp;omega
     .rw[nq i a]at h;split at h
      .cases h
      .have:=ih asP h;simp;omega
section
variable {P:Program}{N:Nat}{own:Nat->Nat->Nat}{Q:Exit->Tm->List Blk->Prop}{T:Tm}{L:List Blk}
theorem ade{lc:bP}(t sz B:Nat){l:List AV}{n:Nat}{v:AV}(b:ay T t=some v)(d:B<L.length)(g:(v=.sl [] 0 (some 0)/\l=[]/\n=0)\/∃i,B<i/\v=.gsl l n i sz/\L[i]?=some (.spare n sz))(h:∀i X,B<i->(L++X)[i]?=some (.spare n sz)->AW P N own lc Q ((t,.gsl l n i sz)::T) (L++X)):AW P N own lc Q T L:=by
 rcases g with⟨rfl,rfl,rfl⟩|⟨i,a,rfl,f⟩;exact bR t sz b asQ (h L.length [.spare 0 sz] d asQ);have c:=h i [] a (by simpa using f);rw[ap4]at c;refine c.weakT λt' k e=>?_
 simp only[ay]at e;split at e;rename_i j;subst j;cases e;exact b;exact e
end
variable {L:List Blk}{K:apr}
set_option maxHeartbeats 8000000
set_option maxRecDepth 100000
def an0(B:Nat)(r:Rdn)(v:AV)(L:List Blk):Prop:=(v=.sl [] 0 (some 0)/\bg r=[]/\r.length=0)\/∃i,B<i/\v=.gsl (bg r) r.length i 2/\L[i]?=some (.spare r.length 2)
theorem acb(r:Rdn)(t v:List UInt8):bg (r++[(t,v)])=bg r++[.str t,.str v]:=by simp[bg,pD]
theorem gP(r:Rdn):AV.frzL (bg r)=bg r:=by
 induction r with
 |nil=>rfl
 |cons a r ih=>simpa[bg,pD,AV.frzL,AV.frz]using ih
theorem jf{L0 X:List Blk}{e:Int}{K:apr}(h:K (aa0 ([],e)) L0):Fin L0 (.tup [.sl [] 0 (some 0),.int .i64 e]) (L0++X) K:=aY (ac rfl h)
theorem bB(d:List Rdn):AV.frzL (d.map aq)=d.map aq:=by
 rw[AV.frzL_eq,apS];refine aqJ λr _=>?_
 simp only[Function.comp,AV.frz,gP]
theorem ah9(q:Nat->Bool)(r:Rdn):AV.refsL q (bg r)=true:=by
 induction r with
 |nil=>rfl
 |cons a r ih=>simpa[bg,pD,AV.refsL,AV.refs]using ih
theorem fD(q:Nat->Bool):∀d:List Rdn,AV.refsL q (d.map aq)=true
 |[]=>rfl
 |r::d=>by simp only[apX,AV.refsL,AV.refs,ah9,fD q d,arx]
theorem wS(h:jG s=true):s.length<=32:=by simp only[jG,apw,decide_eq_true_eq]at h;exact h.1.1.2
theorem anB{r:Rdn}{i n:Nat}(d:r.length=n)(f:n<=8)(c:∀a∈r,a.1.length<=32)(e:typ.length<=4096)(h:K (.bool (lZ r typ)) L):
  apq 121 [.gsl (bg r) n i 2,.str typ] L K:=by
 subst d;exact iL (by simpa only[AV.frzL,AV.frz,gP]using amO (cap:=none) asP (λa b=>by have:=c a b;omega) asP h)
theorem act(h:K (aa0 (dW s)) L):apq 77 [.str s] L K:=by
 refine ab abd (by simp[Tg]) ?_;simp only[Tg,ag];by_cases O:4096<s.length;have f1:(4096:Int)<(s.length:Int):=asP;rw[dW,if_pos O]at h;replace h:=hid h;clear O;refine wk ?_;exact aY (aa h.o);have f1:¬(4096:Int)<(s.length:Int):=asP;rw[dW,if_neg O]at h;by_cases h2:s=[];rw[if_pos h2]at h;replace h:=hid h;refine wk ?_;exact aY (aa h.o);rw[if_neg h2]at h;replace h:=hid h;have hs:=hid (show s.length<=4096 by omega);clear O;obtain⟨R,S⟩:=apl (tP (s.length+1) [] [] s);rw[S]at h;refine wk ?_;refine bR (l:=[]) (n:=0) 4 1 rfl (apU 1).symm ?_;refine aj (λn T' L'=>∃(f m:Nat) (out:List Rdn) (j:Rdn) (u:List UInt8) (v:AV) (X:List Blk),f=n/\u.length<=4096/\m=out.length/\m<=32/\j.length<=8/\Hid (u.length<f/\tP f out j u=R/\(∀a∈j,a.1.length<=32)/\an0 L.length j v L')/\L'[L.length]?=some (.spare m 1)/\T'=[(5,v),(4,.gsl (out.map aq) m L.length 1),(0,.str u)]/\L'=L++X) asT ⟨s.length+1,0,[],[],s,_,[.spare 0 1],rfl,hs.o,rfl,asP,asQ,hid ⟨asP,S,asQ,.inl ⟨rfl,rfl,rfl⟩⟩,asQ,rfl,rfl⟩ ?_;clear h2;clear hs;rintro _ _ _ ⟨f,m,out,j,u,v,X,rfl,hu,G,D,E,hI,ho,rfl,rfl⟩;obtain⟨hf,C,N,hv⟩:=hI.o;clear hI;clear S;obtain⟨f,rfl⟩:∃g,f=g+1:=⟨f-1,asP⟩;have hB:L.length<(L++X).length:=(aps.1 ho).1;refine ade 5 2 L.length rfl hB hv λi Y T I=>?_
 rw[apG]at I⊢;have B:(L++(X++Y))[L.length]?=some (.spare m 1):=by rw[<- apG,apx hB];exact ho
 generalize X++Y=Z at I B⊢;clear ho hB hv;have s5:∀A,(L++Z).set i A=L++Z.set (i-L.length) A:=λA=>apW _ _ asP
 have s4:∀(W:List Blk) A,(L++W).set L.length A=L++W.set 0 A:=λW A=>by rw[apW _ _ (apt _),aqR]
 have hz:i-L.length≠0:=asP;have al:∀A,(L++Z.set (i-L.length) A)[L.length]?=some (.spare m 1):=λA=>by rw[<- s5,apM asP];exact B
 have ad:∀A,(L++Z.set (i-L.length) A)[i]?=some A:=λA=>by rw[<- s5,ap3,if_pos rfl,if_pos (aps.1 I).1]
 have ap:=hu;obtain⟨c,Q⟩:∃c:Nat,j.length=c:=⟨_,rfl⟩;rw[tP]at C;rw[Q]at C I E⊢;by_cases t:out.length=32\/c=8;rw[if_pos t]at C;have d:=h.o;rw[<- C]at d;replace d:=hid d;have k:(m:Int)=32\/(m:Int)≠32/\(c:Int)=8:=asP;clear C t;clear G;rcases k with k|⟨k,k'⟩;refine wk ?_;exact jf d.o;refine wk ?_;exact jf d.o;rw[if_neg t]at C;have k1:¬(m:Int)=32:=asP;have k2:¬(c:Int)=8:=asP;replace G:=hid G;clear t;replace C:=hid C;replace N:=hid N;refine wk ?_;refine aoH asP ?_;rcases hcut:lQ u with _|⟨typ,rest⟩;rw[show aad u=.tup [.str u,.str [],.bool false]by simp only[aad,hcut]];have d:=h.o;rw[<- C.o,hcut]at d;simp only at d;replace d:=hid d;refine asX ?_;exact jf d.o;rw[show aad u=.tup [.str typ,.str rest,.bool true]by simp only[aad,hcut]];have r:=C.o;rw[hcut]at r;simp only at r;have an:=aet hcut;replace r:=hid r;clear hcut C;refine sk ?_;cases hty:jG typ with
 | false =>
   have d:=h.o;rw[<- r.o,if_pos hty]at d;replace d:=hid d;have kk1:=@hid _ @aci;refine wk ?_;exact jf d.o
 | true =>
   have z:=r.o;rw[if_neg (by rw[hty];simp)]at z;replace z:=hid z;clear r;have kk1:=@hid _ @aci;refine wk ?_;refine anB Q E N.o asP ?_;cases hha:lZ j typ with
   | true =>
     have d:=h.o;rw[<- z.o,if_pos hha]at d;replace d:=hid d;refine asX ?_;exact jf d.o
   | false =>
     have y:=z.o;rw[if_neg (by rw[hha];simp)]at y;replace y:=hid y;clear z;refine asX ?_;refine ak4 asP ?_;rcases hvl:ja [] false rest with _|⟨w,r2,ai⟩
     .have d:=h.o;rw[<- y.o,hvl]at d;simp only at d;replace d:=hid d;simp only[agX];refine asX ?_;exact jf d.o
     .have p:=y.o;rw[hvl]at p;simp only at p;have V:=aiC _ (apt _) hvl;replace p:=hid p;clear y hvl;simp only[agX];refine sk ?_;cases ai with
      | false =>
        have d:=h.o;rw[<- p.o,if_pos rfl]at d;replace d:=hid d;refine wk ?_;exact jf d.o
      | true =>
        have q:=p.o;rw[if_neg asQ]at q;replace q:=hid q;clear p;have q1:(c+1)*32<=140737488355328:=asP;have q2:c+1<=140737488355328:=asP;have q3:(m+1)*24<=140737488355328:=asP;have q4:m+1<=140737488355328:=asP;have J:bg j++[AV.str typ,AV.str w]=bg (j++[(typ,w)]):=(acb _ _ _).symm;have M:out.map aq++[AV.sl (AV.frzL (bg j++[AV.str typ,AV.str w])) (c+1) none]=(out++[j++[(typ,w)]]).map aq:=by rw[J,gP,ap1];simp[Q]
        have P:(out++[j++[(typ,w)]]).length=m+1:=(by simp[G.o]);have F:(j++[(typ,w)]).length=c+1:=(by simp[Q]);have e5:∀a∈j++[(typ,w)],a.1.length<=32:=λa ha=>by
         rcases apy.1 ha with h|h
         .exact N.o a h
         .rw[apT.1 h];exact wS hty
        replace J:=hid J;replace M:=hid M;replace P:=hid P;replace F:=hid F;replace e5:=hid e5;cases r2 with
        | nil =>
          have d:=h.o;rw[<- q.o]at d;simp only at d;replace d:=hid d;refine wk ?_;rw[M.o];refine aY (ac ?_ ?_)
          .simp only[AV.frz,AV.frzL,bB,AV.refs,AV.refsL,fD,arx]
          .simp only[AV.frz,AV.frzL,bB];have:=d.o;simp only[aa0,P.o]at this;exact this
        | cons x s' =>
          simp only at q;have q5:¬(x::s'=[]):=asQ;have q7:((s'.length:Int)+1).toNat-1=s'.length:=asP;have H:s'.take (((s'.length:Int)+1).toNat-1)=s':=(by rw[q7,apJ]);simp only[apC]at V;clear q7;replace H:=hid H;by_cases U:x=44
          .subst U;refine wk ?_;rw[H.o,M.o];refine asU ?_ (CutS (b:=?_)) ⟨f,m+1,out++[j++[(typ,w)]],[],s',.sl [] 0 (some 0),_,rfl,asP,P.o.symm,asP,asQ,hid ⟨asP,?_,asQ,.inl ⟨rfl,rfl,rfl⟩⟩,?_,rfl,rfl⟩
           .omega
           .have:=(aps.1 B).1;simp at this⊢;omega
           .rw[<- q.o,if_pos rfl]
           .have:=(aps.1 B).1;rw[<- s4,ap3,if_pos rfl,if_pos (by simp at this⊢;omega)]
          .have q6:¬(x.toNat:Int)=44:=λe=>U ((bQ x 44).1 e)
           refine wk ?_;rw[H.o,J.o];refine asU ?_ (CutS (b:=?_)) ⟨f,m,out,j++[(typ,w)],s',.gsl (bg (j++[(typ,w)])) (c+1) i 2,_,rfl,asP,G.o,D,by rw[F.o];omega,hid ⟨asP,?_,e5.o,.inr ⟨i,T,by rw[F.o],by rw[F.o];exact ad _⟩⟩,al _,rfl,rfl⟩
           .omega
           .have:=(aps.1 B).1;simp at this⊢;omega
           .rw[<- q.o,if_neg U]
def dX:Rdn->Rdn->Int
 |_,[]=>0
 |done,a::t=>if done.length=8 then 9 else if jG a.1=false then 20 else if lZ done a.1=true then 21 else dX (done++[a]) t
def jK:Nat->List Rdn->Int
 |_,[]=>0
 |i,r::t=>if i=32 then 9 else if r=[]then 2 else if dX [] r≠0 then dX [] r else jK (i+1) t
theorem nv{d:List Rdn}{k:Nat}(h:k<d.length):(d.map aq).getD k .undef=aq (d.getD k []):=by simp[h]
theorem Xk{r:Rdn}{k:Nat}:(bg r).take (k*2)=bg (r.take k):=by
 induction r generalizing k with
 |nil=>simp[bg]
 | cons a r ih =>
   cases k with
   |zero=>simp[bg]
   | succ k =>
     have:=@ih k;simp only[bg]at this;rw[show(k+1)*2=k*2+1+1 by omega];simp[bg,pD,this]
theorem anA{r:Rdn}{n:Nat}(d:r.length=n)(f:n<=8)(c:∀a∈r,a.1.length<=32)(e:typ.length<=32)(h:K (.bool (lZ r typ)) L):
  apq 121 [.sl (bg r) n cap,.str typ] L K:=by
 subst d;exact amO asP (λa b=>by have:=c a b;omega) asP h
theorem amc{d:List Rdn}(hn:d.length<=1100000)(E:∀r∈d,r.length<=1100000)(h:K (.int .i64 (jK 0 d)) L):apq 84 [.sl (d.map aq) d.length cap] L K:=by
 replace h:=hid h;have I:=hid (λk=>@nv d k);replace E:=hid E;refine apo abb ?_;refine aj (λn T' L'=>∃(i:Nat) (X:List Blk),n=d.length-i/\i<=d.length/\i<=32/\Hid (jK i (d.drop i)=jK 0 d)/\T'=[(9,.int .i64 (i:Int)),(8,.int .i64 d.length),(7,.sl (d.map aq) d.length cap)]/\L'=L++X) asT ⟨0,[],rfl,apv _,asP,hid rfl,rfl,asQ⟩ ?_;rintro _ _ _ ⟨i,X,rfl,W,M,O,rfl,rfl⟩;by_cases q:i<d.length
 .have g1:(i:Int)<(d.length:Int):=asP;have g2:=apn i asP;have P:=I.o i q;have G:=E.o (d.getD i []) (by rw[apO,apD q];exact aqr _);obtain⟨r,y⟩:=apl (d.getD i []);have B:d.drop i=r::d.drop (i+1):=(by rw[apY q,<- y];simp[q]);rw[y]at P G;have b:=O.o;rw[B,jK]at b;clear B y;by_cases m:i=32;rw[if_pos m]at b;have c:=h.o;rw[<- b]at c;replace c:=hid c;have T:(i:Int)=32:=asP;have R:(32:Int)<(d.length:Int):=asP;clear m b;refine wk ?_;exact ac rfl c.o;rw[if_neg m]at b;have T:¬(i:Int)=32:=asP;by_cases t:r=[];rw[if_pos t]at b;subst t;have c:=h.o;rw[<- b]at c;replace c:=hid c;clear m b;refine wk ?_;exact ac rfl c.o;rw[if_neg t]at b;have k2:¬(r.length:Int)=0:=(by have:=aqi.2 t;omega);have g:∀e:Int,dX [] r=e->e≠0->K (.int .i64 e) L:=λe J a2=>by rw[if_pos (by rw[J];exact a2),J]at b;rw[b];exact h.o
  replace g:=hid g;replace b:=hid b;clear m;refine wk ?_;refine aj (λn T' L'=>∃(k:Nat) (Y:List Blk),n=r.length-k/\k<=r.length/\k<=8/\Hid (dX (r.take k) (r.drop k)=dX [] r/\∀a∈r.take k,a.1.length<=32)/\T'=[(23,.int .i64 (k:Int)),(22,.int .i64 r.length),(21,aq r),(4,aq r),(9,.int .i64 (i:Int)),(8,.int .i64 d.length),(7,.sl (d.map aq) d.length cap)]/\L'=L++(X++Y)) asT ⟨0,[],rfl,apv _,asP,hid ⟨rfl,asQ⟩,rfl,asQ⟩ ?_;rintro _ _ _ ⟨k,Y,rfl,Z,Q,s,rfl,rfl⟩;by_cases l:k<r.length
  .have g3:(k:Int)<(r.length:Int):=asP;have g4:=apn k asP;have N:=gQ l;have V:k*2+2<=(bg r).length:=(by rw[dp];omega);obtain⟨⟨ty,F⟩,x⟩:∃a,r.getD k ([],[])=a:=⟨_,rfl⟩;have C:r.drop k=(ty,F)::r.drop (k+1):=(by rw[apY l,<- x];simp[l]);have v:r.take (k+1)=r.take k++[(ty,F)]:=(by rw[apK l,<- x];simp[l]);rw[x]at N;simp only[pD]at N;obtain⟨j,w⟩:=s.o;rw[C,dX]at j;have A:(r.take k).length=k:=(by simp;omega);rw[A]at j;clear C x s;have e5:(bg r).take (k*2)=bg (r.take k):=Xk;have g5:(k:Int)<=(r.length:Int):=asP;replace j:=hid j;replace w:=hid w;replace v:=hid v;have U:=hid A;clear A
   repeat' first
    |refine bG ?_
    | (first|refine bw asR ?_|refine aN asR ?_|refine aQ ?_|refine cS ?_|refine bJ (fun _=>?_)|refine aF ?_|refine bA ?_)
      refine sm ?_
    | (first|refine bq asR ?_|refine bm ?_|refine aP ?_|refine bz ?_|refine bO (aE ?_))
      refine sl ?_
    |exact bK
    |first|apply bL|apply br|apply bM|apply bu|apply bN|apply bv
    |refine aT ?_
    |refine aO ?_
    |first|refine aR rfl ?_|refine aS rfl ?_|refine aB rfl ?_ ?_|refine aW rfl (λ_=>?_) (λ_=>?_)|refine aV rfl (λ_=>?_) (λ_=>?_)
    |((first|refine aA (λ_=>?_) (λ_=>?_)|refine aD (λ_=>?_) (λ_=>?_))<;>try refine sm ?_)
    |refine And.intro trivial ?_
    |refine And.intro asP ?_
    |refine bd rfl (λ_=>?_) (λ_=>?_)
    |refine And.intro ?_ ?_
   rename_i S;have c:=g.o 9 (by rw[<- j.o,if_pos asP]) (by decide);exact ac rfl c;rename_i S;have f:=j.o;rw[if_neg asP]at f;refine aci ?_;cases hty:jG ty with
   | false =>
     have c:=hid (g.o 20 (by rw[<- f,if_pos hty]) (by decide));clear f;refine asX ?_;exact ac rfl c.o
   | true =>
     rw[if_neg (by rw[hty];simp)]at f;replace f:=hid f;have D:=wS hty;refine asX ?_;refine aM (anA U.o asP w.o D ⟨rfl,rfl⟩) ?_;cases hha:lZ (r.take k) ty with
     | true =>
       have c:=hid (g.o 21 (by rw[<- f.o,if_pos hha]) (by decide));refine asX ?_;exact ac rfl c.o
     | false =>
       have u:=f.o;rw[if_neg (by rw[hha];simp),<- v.o]at u;replace u:=hid u;clear f;refine asX ?_;refine asU asP asT ⟨k+1,Y++[.cells [.str ty,.str F]],rfl,l,asP,hid ⟨u.o,λa x=>?_⟩,rfl,asQ⟩;rw[v.o]at x;rcases apy.1 x with h|h
       .exact w.o a h
       .rw[apT.1 h];exact D
  have z:k=r.length:=asP;subst z;have g3:¬(r.length:Int)<(r.length:Int):=asP;have H:=s.o.1;rw[aqe,dX]at H;have p:=b.o;rw[<- H]at p;simp only[ne_eq,not_true_eq_false,if_false]at p;replace p:=hid p;clear H;refine wk ?_;exact asU asP asT ⟨i+1,X++Y,rfl,q,asP,hid p.o,rfl,rfl⟩
 have z:i=d.length:=asP;subst z;have g1:¬(d.length:Int)<(d.length:Int):=asP;have c:=h.o;rw[<- O.o,aqe,jK]at c;replace c:=hid c;refine wk ?_;exact ac rfl c.o
end Go.Proofs.YtdnfjhflkkpokaaGreatDoor.Av
namespace Go.Proofs
open Go.Shelf
def Tryz.lays190_ren:Go.Shelf.Ren:=⟨λ|190=>132|125=>100|258=>187|128=>154|129=>155|302=>210|303=>211|304=>212|305=>213|306=>214|307=>215|308=>216|309=>217|310=>218|333=>234|329=>192|330=>193|334=>235|335=>236|336=>156|344=>247|n=>n,λ|31=>50|9=>9|3=>3|46=>185|0=>0|51=>229|53=>231|4=>4|183=>223|182=>222|131=>161|5=>5|218=>273|222=>180|228=>292|229=>293|n=>n,λ|n=>n⟩
theorem Tryz.lays190:Go.Proofs.Lays.n190 Tryz.prog Tryz.lays190_ren:={
 mixed:=by kernel_rfl
 f125:=Tryz.func100.trans (congrArg some (by kernel_rfl))
 f128:=Tryz.func154.trans (congrArg some (by kernel_rfl))
 f129:=Tryz.func155.trans (congrArg some (by kernel_rfl))
 f190:=Tryz.func132.trans (congrArg some (by kernel_rfl))
 f258:=Tryz.func187.trans (congrArg some (by kernel_rfl))
 f302:=Tryz.func210.trans (congrArg some (by kernel_rfl))
 f303:=Tryz.func211.trans (congrArg some (by kernel_rfl))
 f304:=Tryz.func212.trans (congrArg some (by kernel_rfl))
 f305:=Tryz.func213.trans (congrArg some (by kernel_rfl))
 f306:=Tryz.func214.trans (congrArg some (by kernel_rfl))
 f307:=Tryz.func215.trans (congrArg some (by kernel_rfl))
 f308:=Tryz.func216.trans (congrArg some (by kernel_rfl))
 f309:=Tryz.func217.trans (congrArg some (by kernel_rfl))
 f310:=Tryz.func218.trans (congrArg some (by kernel_rfl))
 f329:=Tryz.func192.trans (congrArg some (by kernel_rfl))
 f330:=Tryz.func193.trans (congrArg some (by kernel_rfl))
 f333:=Tryz.func234.trans (congrArg some (by kernel_rfl))
 f334:=Tryz.func235.trans (congrArg some (by kernel_rfl))
 f335:=Tryz.func236.trans (congrArg some (by kernel_rfl))
 f336:=Tryz.func156.trans (congrArg some (by kernel_rfl))
 f344:=Tryz.func247.trans (congrArg some (by kernel_rfl))
 t0:=Tryz.underlying0
 a0:=Tryz.isAgg0
 z0:=Tryz.sizeOf0
 v0:=Tryz.zeroValue0
 t3:=Tryz.underlying3
 a3:=Tryz.isAgg3
 z3:=Tryz.sizeOf3
 v3:=Tryz.zeroValue3
 t4:=Tryz.underlying4
 a4:=Tryz.isAgg4
 z4:=Tryz.sizeOf4
 v4:=Tryz.zeroValue4
 t5:=Tryz.underlying5
 a5:=Tryz.isAgg5
 z5:=Tryz.sizeOf5
 v5:=Tryz.zeroValue5
 t9:=Tryz.underlying9
 a9:=Tryz.isAgg9
 z9:=Tryz.sizeOf9
 v9:=Tryz.zeroValue9
 t31:=Tryz.underlying50
 a31:=Tryz.isAgg50
 z31:=Tryz.sizeOf50
 v31:=Tryz.zeroValue50
 t46:=Tryz.underlying185
 a46:=Tryz.isAgg185
 z46:=Tryz.sizeOf185
 v46:=Tryz.zeroValue185
 t51:=Tryz.underlying229
 a51:=Tryz.isAgg229
 z51:=Tryz.sizeOf229
 v51:=Tryz.zeroValue229
 t53:=Tryz.underlying231
 a53:=Tryz.isAgg231
 z53:=Tryz.sizeOf231
 v53:=Tryz.zeroValue231
 t131:=Tryz.underlying161
 a131:=Tryz.isAgg161
 z131:=Tryz.sizeOf161
 v131:=Tryz.zeroValue161
 t182:=Tryz.underlying222
 a182:=Tryz.isAgg222
 z182:=Tryz.sizeOf222
 v182:=Tryz.zeroValue222
 t183:=Tryz.underlying223
 a183:=Tryz.isAgg223
 z183:=Tryz.sizeOf223
 v183:=Tryz.zeroValue223
 t218:=Tryz.underlying273
 a218:=Tryz.isAgg273
 z218:=Tryz.sizeOf273
 v218:=Tryz.zeroValue273
 t222:=Tryz.underlying180
 a222:=Tryz.isAgg180
 z222:=Tryz.sizeOf180
 v222:=Tryz.zeroValue180
 t228:=Tryz.underlying292
 a228:=Tryz.isAgg292
 z228:=Tryz.sizeOf292
 v228:=Tryz.zeroValue292
 t229:=Tryz.underlying293
 a229:=Tryz.isAgg293
 z229:=Tryz.sizeOf293
 v229:=Tryz.zeroValue293}
open Go.Sort Go.RowKit in
theorem Tryz.slices_Sort_string(blk off cap:Nat)(b:List (List UInt8))(w:World)(d:Holds encStr w blk off b.toArray)(a:blk<w.heap.size)(c:b.length<4611686018427387904):
 Calls Tryz.prog 132 #[.slice (some ⟨blk,off,none⟩) b.length cap] w λe w' =>
  e=.returned (.tuple #[])/\∃n os,w'=grow (putRow encStr (Sort.ahead w n) blk off (b.mergeSort λx y=>decide (x<=y)).toArray) os:=Any.slices_Sort_string Tryz.lays190 blk off cap b w d a c
open Go.RowKit Go.Sort in
theorem Tryz.slices_Sort_string_none(p:Option Addr)(cap:Nat)(w:World):
 Calls Tryz.prog 132 #[.slice p 0 cap] w λe w'=>e=.returned (.tuple #[])/\w'=w:=Any.slices_Sort_string_none Tryz.lays190 p cap w
end Go.Proofs
namespace Go.Proofs.YtdnfjhflkkpokaaGreatDoor.Av
open Go Go.Sort
variable {L:List Blk}{K:apr}
abbrev aG(xs:List (List UInt8)):List AV:=xs.map AV.str
theorem V4{xs:List (List UInt8)}{sep:List UInt8}{cap:Option Nat}(H:xs.length<=1100000)(F:(Lib.join xs sep).length<=140737488355328)(h:K (.str (Lib.join xs sep)) L):
  apq 126 [.sl (aG xs) xs.length cap,.str sep] L K :=
 dE Tryz.func126 rfl asR (λw0 S0 E w vs A y=>by
  simp only[VRL,VR]at y;obtain⟨_,_,rfl,⟨p,c,rfl,n,_,G⟩,_,_,rfl,rfl,rfl⟩:=y;by_cases q:xs=[];subst q;exact(Tryz.strings_Join_none p c ⟨⟨sep⟩⟩ w).mono λe w' ⟨t,B⟩=>⟨_,t,by simp[VR,Lib.join],by subst B;exact EC.refl _⟩
  rcases G with⟨C,_⟩|⟨b,o,rfl,f⟩;exact absurd (aqc.1 C) q;have k:∀(j:Nat) x,(xs.map λs=>(⟨⟨s⟩⟩:ByteArray))[j]?=some x->w.cell? ⟨b,o+j,none⟩=some (.string x):=λj x l=>by rw[aqk]at l;rcases hxs:xs[j]? with _|s;rw[hxs]at l;cases l;rw[hxs]at l;simp only[apN,apu]at l;subst l;obtain⟨v,g1,z⟩:=f.get (i:=j) (a:=.str s) (by rw[aqk,hxs];rfl);simp only[VR]at z;subst z;exact A.mem _ _ _ g1
  have r:b<w.heap.size:=by have u:0<xs.length:=aqi.2 q;have D:=k 0 ⟨⟨xs[0]⟩⟩ (by rw[aqk,apD u];rfl);rcases apV b w.heap.size with g|g;exact g;simp[World.cell?,Array.getElem?_eq_none g]at D
  have m:(xs.map λs=>(⟨⟨s⟩⟩:ByteArray)).map (·.data.toList)=xs:=(by rw[apS];exact List.map_id'' (λ_=>rfl) xs);have key:=Tryz.strings_Join b o c (xs.map λs=>(⟨⟨s⟩⟩:ByteArray)) ⟨⟨sep⟩⟩ w k r (by rw[apQ];omega) (by rw[apQ];exact n) (by rw[m];exact F);rw[m]at key;simp only[apQ]at key;exact key.mono λe w' ⟨t,d⟩=>⟨_,t,by simp[VR],⟨λb r=>d.block b r,d.size,d.os,d.tape,d.output⟩⟩) h
theorem Rel.putStrs{w0:World}{S0:SB}{E:Env}{L:List Blk}{w:World}(h:Rel w0 S0 E L w){i:Nat}{xs d:List (List UInt8)}{rest:List AV}{c:Loc}(p:L[i]?=some (.cells (aG xs++rest)))(n:E.loc i=some c)(r:d.length=xs.length)(q:Nat):
  Rel w0 S0 E (L.set i (.cells (aG d++rest))) (putRow encStr (Sort.ahead w q) c.blk c.off d.toArray):=by
 obtain⟨c',cs,ty,fr,t,s,C,h4,z,u⟩:=h.blk i _ p;rw[n]at t;cases t;have y:c.blk<w.heap.size:=(aqh.1 s).1;have B:(putRow encStr (Sort.ahead w q) c.blk c.off d.toArray).heap[c.blk]?=some (.cells (putCells encStr c.off d.toArray cs) ty fr):=by simp[putRow,mapBlock,Sort.ahead,arp,s,onCells]
 have f:(aG xs++rest).length=xs.length+rest.length:=asQ;refine h.turn (k':=.cells (aG d++rest)) p rfl n asQ (λb x=>?_) rfl rfl rfl ⟨c,_,ty,fr,n,B,by simp[putCells,C],?_,λj a k=>?_,u⟩ (λ_ _ e=>by cases e);have:c.blk≠b:=λe=>x e.symm
 simp[putRow,mapBlock,Sort.ahead,arp,this];rw[f]at h4;simp only[apB,apQ,r];omega;rw[f]at h4;have F:j<d.length+rest.length:=by have:=(aps.1 k).1;simpa using this
 have l:c.off+j<cs.size:=asP;have o:(putCells encStr c.off d.toArray cs)[c.off+j]?=some (if c.off<=c.off+j/\c.off+j<c.off+d.length then encStr (d.toArray[c.off+j-c.off]!)else cs[c.off+j]):=by simp[putCells,l]
 by_cases g:j<d.length;have A:a=.str d[j]:=by rw[apx (by simpa using g)]at k;simpa[g]using k.symm
 subst A;refine⟨_,o,?_⟩;rw[if_pos asP,show c.off+j-c.off=j by omega];simp[VR,encStr,g];have m:(aG xs++rest)[j]?=some a:=by rw[apH (by simp;omega)]at k⊢;simpa[r]using k
 obtain⟨v,g1,D⟩:=z j a m;refine⟨v,?_,D⟩;rw[o,if_neg asP,<- g1];simp[l]
theorem Zg{w0:World}{S0:SB}{E:Env}{L:List Blk}{w:World}(h:Rel w0 S0 E L w){i:Nat}{xs:List (List UInt8)}{rest:List AV}{c:Loc}(k:L[i]?=some (.cells (aG xs++rest)))(f:E.loc i=some c):
  Holds encStr w c.blk c.off xs.toArray/\c.blk<w.heap.size:=by
 obtain⟨c',cs,ty,fr,d,b,o,h4,n,g⟩:=h.blk i _ k;rw[f]at d;cases d;refine⟨λj m=>?_,(aqh.1 b).1⟩;have a:j<xs.length:=by simpa using m
 obtain⟨v,g1,e⟩:=n j (.str xs[j]) (by rw[apx (by simpa using a)];simp[a]);simp only[VR]at e;subst e;refine⟨by simp[World.cell?,encStr,b,g1,a],?_⟩;have l:=g (c.off+j) asP (by simp only[apB,apQ]at h4;omega);simp only[World.frozen?,b];obtain⟨q,p⟩:=fr;simp only at l;simp only[ar3,decide_eq_false_iff_not];omega
theorem jE{P:Program}{f:FuncId}{fn:Func}(d:P.funcs[f]?=some fn)(b:fn.body.isSome=true)(a:(fn.name == "runtime.NumGoroutine")=false)(args:Array Value)(w:World):(callFunc f args).run P w=.ok (.enter f args) w:=by
 simp only[callFunc,apA,run_program,apE,d,a];cases h:fn.body with
 |none=>simp[h]at b
 |some c=>simp
def fE(xs:List (List UInt8)):List (List UInt8):=xs.mergeSort λx y=>decide (x<=y)
theorem ale{xs:List (List UInt8)}{i:Nat}{cp:Option Nat}{rest:List AV}(p:xs≠[])(v:xs.length<=1100000)(l:L[i]?=some (.cells (aG xs++rest)))(h:K (.tup []) (L.set i (.cells (aG (fE xs)++rest)))):
  apq 132 [.lsl i 0 xs.length cp 1] L K:=λw0 S0 E w vs j m=>by
 simp only[VRL,VR]at m;obtain⟨_,_,rfl,⟨c,r,d,g,rfl,t,o,_,_⟩,rfl⟩:=m;have k:0<xs.length:=aqi.2 p;have a:d=c.off:=by have:=t asP;omega
 subst a;obtain⟨n,f⟩:=Zg j l g;refine .inl ⟨jE Tryz.func132 rfl asR _ _,(Tryz.slices_Sort_string c.blk c.off r xs w n f asP).mono ?_⟩;rintro e w' ⟨rfl,q,os,rfl⟩;have u:=j.putStrs l g (d:=fE xs) (by simp[fE]) q;refine⟨E,_,_,_,rfl,.refl E,h,by simp[VR,VRL],u.grown ?_⟩;exact⟨λb s=>asj s,by simp[grow],rfl,rfl,rfl⟩
theorem aiT{cap:Option Nat}(h:K (.tup []) L):apq 132 [.sl [] 0 cap] L K :=
 dE Tryz.func132 rfl asR (λw0 S0 E w vs f a=>by simp only[VRL,VR]at a;obtain⟨_,_,rfl,⟨p,c,rfl,_⟩,rfl⟩:=a;exact(Tryz.slices_Sort_string_none p c w).mono λe w' ⟨d,b⟩=>⟨_,d,by simp[VR,VRL],by subst b;exact EC.refl _⟩) h
theorem alW{xs:List (List UInt8)}{sep:List UInt8}{i:Nat}{cp:Option Nat}(t:xs≠[])(D:xs.length<=1100000)(y:(Lib.join xs sep).length<=140737488355328)(u:L[i]?=some (.cells (aG xs)))(h:K (.str (Lib.join xs sep)) L):
  apq 126 [.lsl i 0 xs.length cp 1,.str sep] L K:=λw0 S0 E w vs p q=>by
 simp only[VRL,VR]at q;obtain⟨_,_,rfl,⟨c,B,d,C,rfl,z,n,_,_⟩,_,_,rfl,rfl,rfl⟩:=q;have r:0<xs.length:=aqi.2 t;have o:d=c.off:=by have:=z asP;omega
 subst o;obtain⟨A,m⟩:=Zg (rest:=[]) p (by simpa using u) C;have k:∀(j:Nat) x,(xs.map λs=>(⟨⟨s⟩⟩:ByteArray))[j]?=some x->w.cell? ⟨c.blk,c.off+j,none⟩=some (.string x):=λj x l=>by have f:j<xs.length:=(by have:=(aps.1 l).1;simpa using this);have e:=(A j (by simpa using f)).1;rw[aqk,apD f]at l;simp only[apN,apu]at l;subst l;rw[e];simp[encStr,f]
 have g:(xs.map λs=>(⟨⟨s⟩⟩:ByteArray)).map (·.data.toList)=xs:=by rw[apS];exact List.map_id'' (λ_=>rfl) xs
 have key:=Tryz.strings_Join c.blk c.off B (xs.map λs=>(⟨⟨s⟩⟩:ByteArray)) ⟨⟨sep⟩⟩ w k m (by rw[apQ];omega) (by rw[apQ];exact n) (by rw[g];exact y);rw[g]at key;simp only[apQ]at key;refine .inl ⟨jE Tryz.func126 rfl asR _ _,key.mono ?_⟩;rintro e w' ⟨rfl,a⟩;exact⟨E,_,_,_,rfl,.refl E,h,by simp[VR],p.grown ⟨λb v=>a.block b v,a.size,a.os,a.tape,a.output⟩⟩
end Go.Proofs.YtdnfjhflkkpokaaGreatDoor.Av
set_option maxRecDepth 100000
namespace Go.Proofs.YtdnfjhflkkpokaaGreatDoor.Av
open Go
def XA:LSO:=[Aw 4]
def Xz:LSO:=[Ak 5]
def Xy:LSO:=[Aa 11 0,Ah 12 11,Ac 13 0]
def Xx:LSO:=[Al 14 13 12]
def Xw:LSO:=[Am 15 1 11 13,Ab 16 1 15,Aa 7 16]
def Xv:LSO:=[Ak 8]
def Xu:LSO:=[Aa 17 7,Ah 18 17,Ac 19 0]
def Xt:LSO:=[Al 20 19 18]
def Xs:LSO:=[Am 21 2 17 19,Ar 22 2 21,Bn 10,Ap 2 10 22]
def Xr:LSO:=[Aa 23 1]
def UW:List (aw×Kd):=
 [A9 24 0 10,AA 25 1 24 0 0,Bf 26 46 25 0 0,A9 27 1 10,AA 28 1 27 0 0]
def RO:List aw :=
 [⟨(some 29),(.call 104 [(tm 28)]),none⟩,⟨(some 30),(.build [(.str []),(.str [])] [(0,(1,(tm 26))),(1,(1,(tm 29)))]),none⟩,⟨none,(.store 2 (tm 10) (tm 30)),none⟩]
def UV:List (aw×Kd):=
 [AD 31 8,A9 32 0 10,AA 33 1 32 0 0,od 34 (.bin .add (tm 33) (.av (.str [61]))) .pure,A9 35 1 10,AA 36 1 35 0 0,Bf 37 131 36 0 0,od 38 (.bin .add (tm 34) (tm 37)) .pure,
 od 39 (.bslice false 1 1 [(.str [])] [(0,(1,(tm 38)))]) (.read 0 0)]
def RN:List aw :=
 [⟨(some 40),(.app 2 1 16 [(.str [])] (tm 31) (tm 39)),none⟩,⟨(some 8),(.mv (tm 40)),none⟩]
def UU:LSO:=[Ai 41 19 1,Aa 19 41]
def UT:LSO:=[Aa 42 1]
def UR:LSO:=[Aa 43 8,Aj 44 132 43]
def UQ:LSO:=[Aa 45 5,Aa 46 8,o1 47 (.call 126 [(tm 46),(.av (.str [43]))]),B5 48 47,BE 49 45 48,Aa 5 49]
def UP:LSO:=[Ai 50 13 1,Aa 13 50]
def UO:LSO:=[Aa 51 5,o1 52 (.call 126 [(tm 51),(.av (.str [44]))]),Aa 4 52]
def Ez:aK:=⟨53,(asI XA [] (asI Xz [] (.seq (asI Xy [] (asL 0 (asI Xx [] (.seq (asM 14 0) (.seq (.block 1 (asI Xw C6 (asI Xv [] (.seq (asI Xu [] (asL 2 (asI Xt [] (.seq (asM 20 2) (.seq (.block 3 (asI Xs C6 (.seq (asI Xr [] (asJ 23 (.dregM UW RO CT) .skip)) (.dregM UV RN CU)))) (.sreg UU C4)))))) (.seq (asI UT [] (asJ 42 (.sreg UR CY) .skip)) (.sreg UQ CB)))))) (.sreg UP C4)))))) (asI UO C6 .ret)))),[(.tmp 4)]⟩
attribute [push_cast] XA Xz Xy Xx Xw Xv Xu Xt Xs Xr UW RO UV RN UU UT UR UQ UP UO
theorem Wn:aL Tryz.prog (λr i=>if r=11/\i=9 then 2 else 1) 85=some Ez.raw:=asR
attribute [push_cast] Ez
variable {L:List Blk}{K:apr}
set_option maxHeartbeats 8000000
set_option maxRecDepth 100000
def avT(key:Bool)(a:Ava):List UInt8:=if key=true then ak a.1++[61]++gS (cg a.2)else a.1++[61]++gS a.2
def dy(key:Bool)(r:Rdn):List UInt8:=Lib.join (if key=true then fE (r.map (avT key))else r.map (avT key)) [43]
def bp(key:Bool)(d:List Rdn):List UInt8:=Lib.join (d.map (dy key)) [44]
theorem Tp(n:Nat):∀(s:List UInt8) (i:Nat),(wrL n i s).length<=3*s.length
 |[],_=>by simp[wrL]
 |c::s,i=>by have b:=Tp n s (i+1);have a:=ak2 i n c;simp only[wrL,apB,apC];omega
theorem ag7(l:List (List UInt8)):AV.frzL (aG l)=aG l:=by rw[AV.frzL_eq,apS];rfl
theorem agF{xs:List (List UInt8)}{sep:List UInt8}{i n:Nat}(a:n=xs.length)(c:xs.length<=1100000)(b:(Lib.join xs sep).length<=140737488355328)(h:K (.str (Lib.join xs sep)) L):
  apq 126 [.gsl (aG xs) n i 1,.str sep] L K:=by
 subst a;exact iL (by simpa only[AV.frzL,AV.frz,ag7]using V4 (cap:=none) c b h)
theorem ad7{xs:List (List UInt8)}{sep:List UInt8}{i n:Nat}{cp:Option Nat}(b:n=xs.length)(c:xs≠[])(d:xs.length<=1100000)(a:(Lib.join xs sep).length<=140737488355328)(e:L[i]?=some (.cells (aG xs)))(h:K (.str (Lib.join xs sep)) L):
  apq 126 [.lsl i 0 n cp 1,.str sep] L K:=by
 subst b;exact alW c d a e h
theorem alb{d:List Rdn}{cap:Option Nat}(hn:d.length<=1000)(hr:∀r∈d,r.length<=1000/\∀a∈r,a.1.length<=10000/\a.2.length<=10000)(G:∀r∈d,(dy false r).length<=140737488355328)(P:(bp false d).length<=140737488355328)(h:K (.str (bp false d)) L):
  apq 85 [.sl (d.map aq) d.length cap,.bool false] L K:=by
 replace h:=hid h;have an:=hid (λk=>@nv d k);replace hr:=hid hr;replace G:=hid G;have V:∀(W:List Blk) (j:Nat) (A:Blk),L.length<=j->(L++W).set j A=L++W.set (j-L.length) A:=λW j A D=>apW _ _ D
 replace V:=hid V;refine apo Wn ?_;refine bR (l:=[]) (n:=0) 5 1 rfl (apU 1).symm ?_;refine aj (λn T' L'=>∃(i:Nat) (all:List (List UInt8)) (Z:List Blk),n=d.length-i/\i<=d.length/\Hid (all=(d.take i).map (dy false))/\L'[L.length]?=some (.spare i 1)/\T'=[(13,.int .i64 (i:Int)),(12,.int .i64 d.length),(11,.sl (d.map aq) d.length cap),(5,.gsl (aG all) i L.length 1),(1,.bool false)]/\L'=L++Z) asT ⟨0,[],[.spare 0 1],rfl,apv _,hid rfl,asQ,rfl,rfl⟩ ?_;rintro _ _ _ ⟨i,all,X,rfl,hi,y,ho,rfl,rfl⟩;by_cases w:i<d.length
 .have g1:(i:Int)<(d.length:Int):=asP;have g2:=apn i asP;have e2:=an.o i w;have F:d.getD i []∈d:=(by rw[apO,apD w];exact aqr _);have Q:=hr.o _ F;have M:=G.o _ F;obtain⟨r,E⟩:=apl (d.getD i []);have H:d.take (i+1)=d.take i++[r]:=(by rw[apK w,<- E];simp[w]);rw[E]at e2 Q M;clear E F;obtain⟨ap,x⟩:=Q;replace x:=hid x;replace H:=hid H;have T:=(aps.1 ho).1;rw[apB]at T;replace T:=hid T;refine wk ?_;refine aj (λn T' L'=>∃(k:Nat) (v:AV) (Z:List Blk),n=r.length-k/\k<=r.length/\X.length<=Z.length/\L'[L.length]?=some (.spare i 1)/\Hid ((v=.sl [] 0 (some 0)/\k=0)\/∃j,(0<k/\L.length<j)/\v=.lsl j 0 k none 1/\L'[j]?=some (.cells (aG ((r.take k).map (avT false)))))/\T'=[(19,.int .i64 (k:Int)),(18,.int .i64 r.length),(17,aq r),(8,v),(13,.int .i64 (i:Int)),(12,.int .i64 d.length),(11,.sl (d.map aq) d.length cap),(5,.gsl (aG all) i L.length 1),(1,.bool false)]/\L'=L++Z) asT ⟨0,_,X,rfl,apv _,apt _,ho,hid (.inl ⟨rfl,rfl⟩),rfl,rfl⟩ ?_;rintro _ _ _ ⟨k,v,Z,rfl,hk,u,m,hv,rfl,rfl⟩;replace u:=hid u;by_cases t:k<r.length
  .have g3:(k:Int)<(r.length:Int):=asP;have g4:=apn k asP;have e3:=gQ t;have e4:k*2+2<=(bg r).length:=(by rw[dp];omega);obtain⟨⟨ty,z⟩,S⟩:∃a,r.getD k ([],[])=a:=⟨_,rfl⟩;have R:(ty,z)∈r:=(by rw[<- S];simp[t]);have p:(r.take (k+1)).map (avT false)=(r.take k).map (avT false)++[ty++61::gS z]:=by rw[apK t];have:r[k]=(ty,z):=(by rw[<- S];simp[t]);rw[this];simp[avT]
   rw[S]at e3;simp only[pD]at e3;have N:=x.o _ R;simp only at N;have f:z.length<=100000:=asP;have ai:=Tp z.length z 0;have b1:(ty.length:Int)+1<=9223372036854775807:=asP;have b2:(ty.length:Int)+1+((gS z).length:Int)<=9223372036854775807:=(by unfold gS;omega);clear ai S R N;replace p:=hid p;have q1:(k+1)*16<=140737488355328:=asP;have q2:k+1<=140737488355328:=asP;have q3:k<=140737488355327:=asP;rcases hv.o with⟨rfl,g⟩|⟨j,⟨I,Y⟩,rfl,D⟩;replace g:=hid g;have kk1:=@asW _ _ _ _ (iJ f);refine wk ?_;refine asU asP (CutL (b:=?_)) ⟨k+1,.lsl (L.length+(Z.length+1)) 0 1 none 1,_,rfl,t,?_,?_,hid (.inr ⟨L.length+(Z.length+1),⟨asP,asP⟩,by rw[g.o],?_⟩),rfl,rfl⟩;have:=u.o;simp;omega;have:=u.o;simp;omega;rw[<- apG,apx (aps.1 m).1];exact m;rw[nK,nK,p.o,g.o];rfl
   .obtain⟨cur,c⟩:=apl ((r.take k).map (avT false));have B:cur.length=k:=(by rw[<- c];simp;omega);rw[c]at D;have O:(L++(Z++[Blk.cells [.str ty,.str z]]))[j]?=some (.cells (aG cur)):=by rw[<- apG,apx (aps.1 D).1];exact D
    have f2:(L++(Z++[Blk.cells [.str ty,.str z]])).set j .dead=L++(Z++[Blk.cells [.str ty,.str z]]).set (j-L.length) .dead:=V.o _ _ _ asP;have f3:k<=(aG cur).length:=(by simp[B]);have f4:(aG cur).take k=aG cur:=ap2 (by simp[B]);replace c:=hid c;replace B:=hid B;have al:=hid (show j≠L.length by omega);have ad:=hid f2
    repeat' first
     |refine bG ?_
     | (first|refine bw asR ?_|refine aN asR ?_|refine aQ ?_|refine cS ?_|refine bJ (fun _=>?_)|refine aF ?_|refine bA ?_|refine iJ f ?_|refine bf (iJ f ⟨rfl,rfl⟩) (iJ f ⟨rfl,rfl⟩) ?_|refine aM (iJ f ⟨rfl,rfl⟩) ?_)
       refine sm ?_
     | (first|refine bq asR ?_|refine bm ?_|refine aP ?_|refine bz ?_|refine bO (aE ?_))
       refine sl ?_
     |exact bK
     |first|apply bL|apply br|apply bM|apply bu|apply bN|apply bv
     |refine aT ?_
     |refine aO ?_
     |first|refine aR rfl ?_|refine aS rfl ?_|refine aB rfl ?_ ?_|refine aW rfl (λ_=>?_) (λ_=>?_)|refine aV rfl (λ_=>?_) (λ_=>?_)
     |((first|refine aA (λ_=>?_) (λ_=>?_)|refine aD (λ_=>?_) (λ_=>?_))<;>try refine sm ?_)
     |refine And.intro trivial ?_
     |refine And.intro asP ?_
     |refine bd rfl (λ_=>?_) (λ_=>?_)
     |refine And.intro ?_ ?_
    rw[B.o];exact apt _;have hA:((Z++[Blk.cells [.str ty,.str z]]).set (j-L.length) .dead).length=Z.length+1:=asQ;refine asU asP (CutL (b:=?_)) ⟨k+1,.lsl (L.length+(Z.length+1)) 0 (k+1) none 1,_,rfl,t,?_,?_,hid (.inr ⟨L.length+(Z.length+1),⟨asP,asP⟩,rfl,?_⟩),rfl,rfl⟩;have:=u.o;simp;omega;have:=u.o;simp;omega;rw[<- apG,<- ad.o,apx asQ,apM al.o,<- apG,apx (aps.1 m).1];exact m;rw[nK,<- hA,YX,p.o,c.o];simp
  have J:k=r.length:=asP;subst J;have g3:¬(r.length:Int)<(r.length:Int):=asP;have q4:(i+1)*16<=140737488355328:=asP;have q5:i+1<=140737488355328:=asP;have s:dy false r=Lib.join (r.map (avT false)) [43]:=(by simp[dy]);rw[s]at M;have q:(d.take (i+1)).map (dy false)=all++[Lib.join (r.map (avT false)) [43]]:=by rw[H.o,ap1,<- y.o,<- s];rfl
  have f0:(L++Z).set L.length (.spare (i+1) 1)=L++Z.set 0 (.spare (i+1) 1):=(by rw[V.o _ _ _ (apt _),aqR]);have O:(L++Z.set 0 (.spare (i+1) 1))[L.length]?=some (.spare (i+1) 1):=by rw[<- f0,ap3,if_pos rfl,if_pos (aps.1 m).1]
  replace s:=hid s;replace q:=hid q;replace O:=hid O;rcases hv.o with⟨rfl,g⟩|⟨j,⟨I,Y⟩,rfl,D⟩;have C:r=[]:=aqc.1 g;replace g:=hid g;refine wk ?_;refine V4 (xs:=[]) asQ (by simp[Lib.join]) ?_;refine asX ?_;rw[show aG all++[AV.str (Lib.join [] [43])]=aG (all++[Lib.join [] [43]])by simp];exact asU asP (CutL (b:=by have:=T.o;have h0:=(aps.1 m).1;simp at h0⊢;omega)) ⟨i+1,all++[Lib.join [] [43]],_,rfl,w,hid (by rw[q.o,C];rfl),O.o,rfl,rfl⟩;rw[apJ]at D;by_cases C:r=[];rw[C]at I;cases I;refine wk ?_;refine ad7 (xs:=r.map (avT false)) asQ (by simpa using C) (by simp;omega) M (by simpa using D) ?_;refine asX ?_;rw[show aG all++[AV.str (Lib.join (r.map (avT false)) [43])]=aG (all++[Lib.join (r.map (avT false)) [43]])by simp];exact asU asP (CutL (b:=by have h0:=(aps.1 m).1;simp at h0⊢;omega)) ⟨i+1,all++[Lib.join (r.map (avT false)) [43]],_,rfl,w,hid q.o.symm,O.o,rfl,rfl⟩
 have J:i=d.length:=asP;subst J;have g1:¬(d.length:Int)<(d.length:Int):=asP;have e:=y.o;rw[apJ]at e;have U:=h.o;simp only[bp]at U P;replace U:=hid U;clear y;subst e;refine wk ?_;refine agF asQ (by simp;omega) P ?_;refine asX ?_;exact ac rfl U.o
theorem afc(s:List UInt8):(cO s).length<=s.length:=by have:=rH s s.length;rwa[apJ]at this
theorem Ec(s:List UInt8):(cg s).length<=s.length:=by
 have a:=afc (ak s);have b:(ak s).length=s.length:=by simp[ak]
 unfold cg d9;split;simp only[List.length_dropLast];omega;omega
theorem aiS{xs:List (List UInt8)}{i n:Nat}{cp:Option Nat}(a:n=xs.length)(b:xs≠[])(c:xs.length<=1100000)(d:L[i]?=some (.cells (aG xs)))(h:K (.tup []) (L.set i (.cells (aG (fE xs))))):
  apq 132 [.lsl i 0 n cp 1] L K:=by
 subst a;exact ale (rest:=[]) b c (by simpa using d) (by simpa using h)
theorem abq(xs:List (List UInt8)):(fE xs).length=xs.length:=by simp[fE]
theorem agi{d:List Rdn}{cap:Option Nat}(hn:d.length<=1000)(hr:∀r∈d,r.length<=1000/\∀a∈r,a.1.length<=10000/\a.2.length<=10000)(Q:∀r∈d,(dy true r).length<=140737488355328)(ai:(bp true d).length<=140737488355328)(h:K (.str (bp true d)) L):
  apq 85 [.sl (d.map aq) d.length cap,.bool true] L K:=by
 replace h:=hid h;have a3:=hid (λk=>@nv d k);replace hr:=hid hr;replace Q:=hid Q;have Y:∀(W:List Blk) (j:Nat) (A:Blk),L.length<=j->(L++W).set j A=L++W.set (j-L.length) A:=λW j A D=>apW _ _ D
 replace Y:=hid Y;refine apo Wn ?_;refine bR (l:=[]) (n:=0) 5 1 rfl (apU 1).symm ?_;refine aj (λn T' L'=>∃(i:Nat) (all:List (List UInt8)) (Z:List Blk),n=d.length-i/\i<=d.length/\Hid (all=(d.take i).map (dy true))/\L'[L.length]?=some (.spare i 1)/\T'=[(13,.int .i64 (i:Int)),(12,.int .i64 d.length),(11,.sl (d.map aq) d.length cap),(5,.gsl (aG all) i L.length 1),(1,.bool true)]/\L'=L++Z) asT ⟨0,[],[.spare 0 1],rfl,apv _,hid rfl,asQ,rfl,rfl⟩ ?_;rintro _ _ _ ⟨i,all,X,rfl,hi,F,ho,rfl,rfl⟩;by_cases B:i<d.length
 .have g1:(i:Int)<(d.length:Int):=asP;have g2:=apn i asP;have e2:=a3.o i B;have P:d.getD i []∈d:=(by rw[apO,apD B];exact aqr _);have al:=hr.o _ P;have J:=Q.o _ P;obtain⟨r,O⟩:=apl (d.getD i []);have T:d.take (i+1)=d.take i++[r]:=(by rw[apK B,<- O];simp[B]);rw[O]at e2 al J;clear O P;obtain⟨a4,E⟩:=al;replace E:=hid E;replace T:=hid T;have hX:=(aps.1 ho).1;rw[apB]at hX;replace hX:=hid hX;refine wk ?_;refine aj (λn T' L'=>∃(k:Nat) (v:AV) (Z:List Blk),n=r.length-k/\k<=r.length/\X.length<=Z.length/\L'[L.length]?=some (.spare i 1)/\Hid ((v=.sl [] 0 (some 0)/\k=0)\/∃j,(0<k/\L.length<j)/\v=.lsl j 0 k none 1/\L'[j]?=some (.cells (aG ((r.take k).map (avT true)))))/\T'=[(19,.int .i64 (k:Int)),(18,.int .i64 r.length),(17,aq r),(8,v),(13,.int .i64 (i:Int)),(12,.int .i64 d.length),(11,.sl (d.map aq) d.length cap),(5,.gsl (aG all) i L.length 1),(1,.bool true)]/\L'=L++Z) asT ⟨0,_,X,rfl,apv _,apt _,ho,hid (.inl ⟨rfl,rfl⟩),rfl,rfl⟩ ?_;rintro _ _ _ ⟨k,v,Z,rfl,hk,z,c,hv,rfl,rfl⟩;replace z:=hid z;by_cases y:k<r.length
  .have g3:(k:Int)<(r.length:Int):=asP;have g4:=apn k asP;have e3:=gQ y;have e4:k*2+2<=(bg r).length:=(by rw[dp];omega);obtain⟨⟨ty,C⟩,ha⟩:∃a,r.getD k ([],[])=a:=⟨_,rfl⟩;have an:(ty,C)∈r:=(by rw[<- ha];simp[y]);have u:(r.take (k+1)).map (avT true)=(r.take k).map (avT true)++[ak ty++61::gS (cg C)]:=by rw[apK y];have:r[k]=(ty,C):=(by rw[<- ha];simp[y]);rw[this];simp[avT]
   rw[ha]at e3;simp only[pD]at e3;have ad:=E.o _ an;simp only at ad;have a0:=Ec C;have m:(cg C).length<=100000:=asP;have q:(C.length:Int)<=100000:=asP;have p:(ty.length:Int)<=100000:=asP;have av:=Tp (cg C).length (cg C) 0;have a2:(ak ty).length=ty.length:=(by simp[ak]);have b1:((ak ty).length:Int)+1<=9223372036854775807:=asP;have b2:((ak ty).length:Int)+1+((gS (cg C)).length:Int)<=9223372036854775807:=(by unfold gS;omega);clear av ha an ad a2 a0;replace u:=hid u;have q1:(k+1)*16<=140737488355328:=asP;have q2:k+1<=140737488355328:=asP;have q3:k<=140737488355327:=asP;rcases hv.o with⟨rfl,s⟩|⟨j,⟨U,ap⟩,rfl,D⟩;replace s:=hid s;have kk1:=@asW _ _ _ _ (Oa p);have kk2:=@asW _ _ _ _ (EH q);have kk3:=@asW _ _ _ _ (iJ m);refine wk ?_;refine asU asP (CutL (b:=?_)) ⟨k+1,.lsl (L.length+(Z.length+1)) 0 1 none 1,_,rfl,y,?_,?_,hid (.inr ⟨L.length+(Z.length+1),⟨asP,asP⟩,by rw[s.o],?_⟩),rfl,rfl⟩;have:=z.o;simp;omega;have:=z.o;simp;omega;rw[<- apG,apx (aps.1 c).1];exact c;rw[nK,nK,u.o,s.o];rfl
   .obtain⟨cur,g⟩:=apl ((r.take k).map (avT true));have G:cur.length=k:=(by rw[<- g];simp;omega);rw[g]at D;have N:(L++(Z++[Blk.cells [.str (ak ty),.str (cg C)]]))[j]?=some (.cells (aG cur)):=by rw[<- apG,apx (aps.1 D).1];exact D
    have M:(L++(Z++[Blk.cells [.str (ak ty),.str (cg C)]])).set j .dead=L++(Z++[Blk.cells [.str (ak ty),.str (cg C)]]).set (j-L.length) .dead:=Y.o _ _ _ asP;have f3:k<=(aG cur).length:=(by simp[G]);have f4:(aG cur).take k=aG cur:=ap2 (by simp[G]);replace g:=hid g;replace G:=hid G;have a1:=hid (show j≠L.length by omega);have ar:=hid M
    repeat' first
     |refine bG ?_
     | (first|refine bw asR ?_|refine aN asR ?_|refine aQ ?_|refine cS ?_|refine bJ (fun _=>?_)|refine aF ?_|refine bA ?_|refine Oa p ?_|refine EH q ?_|refine iJ m ?_|refine bf (Oa p ⟨rfl,rfl⟩) (Oa p ⟨rfl,rfl⟩) ?_|refine bf (EH q ⟨rfl,rfl⟩) (EH q ⟨rfl,rfl⟩) ?_|refine bf (iJ m ⟨rfl,rfl⟩) (iJ m ⟨rfl,rfl⟩) ?_|refine aM (Oa p ⟨rfl,rfl⟩) ?_|refine aM (EH q ⟨rfl,rfl⟩) ?_|refine aM (iJ m ⟨rfl,rfl⟩) ?_)
       refine sm ?_
     | (first|refine bq asR ?_|refine bm ?_|refine aP ?_|refine bz ?_|refine bO (aE ?_))
       refine sl ?_
     |exact bK
     |first|apply bL|apply br|apply bM|apply bu|apply bN|apply bv
     |refine aT ?_
     |refine aO ?_
     |first|refine aR rfl ?_|refine aS rfl ?_|refine aB rfl ?_ ?_|refine aW rfl (λ_=>?_) (λ_=>?_)|refine aV rfl (λ_=>?_) (λ_=>?_)
     |((first|refine aA (λ_=>?_) (λ_=>?_)|refine aD (λ_=>?_) (λ_=>?_))<;>try refine sm ?_)
     |refine And.intro trivial ?_
     |refine And.intro asP ?_
     |refine bd rfl (λ_=>?_) (λ_=>?_)
     |refine And.intro ?_ ?_
    rw[G.o];exact apt _;have hA:((Z++[Blk.cells [.str (ak ty),.str (cg C)]]).set (j-L.length) .dead).length=Z.length+1:=asQ;refine asU asP (CutL (b:=?_)) ⟨k+1,.lsl (L.length+(Z.length+1)) 0 (k+1) none 1,_,rfl,y,?_,?_,hid (.inr ⟨L.length+(Z.length+1),⟨asP,asP⟩,rfl,?_⟩),rfl,rfl⟩;have:=z.o;simp;omega;have:=z.o;simp;omega;rw[<- apG,<- ar.o,apx asQ,apM a1.o,<- apG,apx (aps.1 c).1];exact c;rw[nK,<- hA,YX,u.o,g.o];simp
  have V:k=r.length:=asP;subst V;have g3:¬(r.length:Int)<(r.length:Int):=asP;have q4:(i+1)*16<=140737488355328:=asP;have q5:i+1<=140737488355328:=asP;have x:dy true r=Lib.join (fE (r.map (avT true))) [43]:=(by simp[dy]);rw[x]at J;have f:(d.take (i+1)).map (dy true)=all++[Lib.join (fE (r.map (avT true))) [43]]:=by rw[T.o,ap1,<- F.o,<- x];rfl
  replace x:=hid x;replace f:=hid f;rcases hv.o with⟨rfl,s⟩|⟨j,⟨U,ap⟩,rfl,D⟩;have S:r=[]:=aqc.1 s;have f0:(L++Z).set L.length (.spare (i+1) 1)=L++Z.set 0 (.spare (i+1) 1):=(by rw[Y.o _ _ _ (apt _),aqR]);have N:(L++Z.set 0 (.spare (i+1) 1))[L.length]?=some (.spare (i+1) 1):=by rw[<- f0,ap3,if_pos rfl,if_pos (aps.1 c).1]
  replace N:=hid N;replace s:=hid s;refine wk ?_;refine aiT ?_;refine asX ?_;refine V4 (xs:=[]) asQ (by simp[Lib.join]) ?_;refine asX ?_;rw[show aG all++[AV.str (Lib.join [] [43])]=aG (all++[Lib.join [] [43]])by simp];exact asU asP (CutL (b:=by have:=hX.o;have h0:=(aps.1 c).1;simp at h0⊢;omega)) ⟨i+1,all++[Lib.join [] [43]],_,rfl,B,hid (by rw[f.o,S];simp[fE]),N.o,rfl,rfl⟩;rw[apJ]at D;have S:r≠[]:=λe=>by rw[e]at U;cases U
  obtain⟨xs,I⟩:=apl (r.map (avT true));have t:r.length=xs.length:=(by rw[<- I];simp);have w:xs≠[]:=λe=>S (by have:=t;rw[e]at this;exact aqc.1 this)
  rw[I]at D J f;have H:=abq xs;have a5:L.length+(j-L.length)=j:=asP;have M:(L++Z).set j (.cells (aG (fE xs)))=L++Z.set (j-L.length) (.cells (aG (fE xs))):=Y.o _ _ _ asP;have f3:(L++Z.set (j-L.length) (.cells (aG (fE xs))))[j]?=some (.cells (aG (fE xs))):=by rw[<- M,ap3,if_pos rfl,if_pos (aps.1 D).1]
  have R:(L++Z.set (j-L.length) (.cells (aG (fE xs))))[L.length]?=some (.spare i 1):=by rw[<- M,apM asP];exact c
  clear c;replace D:=hid D;generalize hZ1:Z.set (j-L.length) (.cells (aG (fE xs)))=Z1 at M f3 R;have f0:(L++Z1).set L.length (.spare (i+1) 1)=L++Z1.set 0 (.spare (i+1) 1):=(by rw[Y.o _ _ _ (apt _),aqR]);have N:(L++Z1.set 0 (.spare (i+1) 1))[L.length]?=some (.spare (i+1) 1):=by rw[<- f0,ap3,if_pos rfl,if_pos (aps.1 R).1]
  replace N:=hid N;replace M:=hid M;replace f3:=hid f3;replace I:=hid I;replace t:=hid t;replace H:=hid H;clear hZ1;replace w:=hid w;refine wk ?_;refine aiS t.o w.o (by have:=t.o;omega) D.o ?_;rw[M.o];refine asX ?_;refine ad7 (xs:=fE xs) (by rw[H.o];exact t.o) (λe=>w.o (by have:=H.o;rw[e]at this;exact aqc.1 this.symm)) (by have:=t.o;rw[H.o];omega) J f3.o ?_;refine asX ?_;rw[show aG all++[AV.str (Lib.join (fE xs) [43])]=aG (all++[Lib.join (fE xs) [43]])by simp];exact asU asP (CutL (b:=by have h0:=(aps.1 R).1;simp at h0⊢;omega)) ⟨i+1,all++[Lib.join (fE xs) [43]],_,rfl,B,hid f.o.symm,N.o,rfl,rfl⟩
 have V:i=d.length:=asP;subst V;have g1:¬(d.length:Int)<(d.length:Int):=asP;have e:=F.o;rw[apJ]at e;have h':=h.o;simp only[bp]at h' ai;replace h':=hid h';clear F;subst e;refine wk ?_;refine agF asQ (by simp;omega) ai ?_;refine asX ?_;exact ac rfl h'.o
def N5(r:Rdn):Bool:=r.any λa=>decide (4096<a.2.length)
def JV(d:List Rdn):Bool:=d.any N5
theorem ab6:∀(t done:Rdn),dX done t=0->done.length<=8->(done++t).length<=8/\∀a∈t,a.1.length<=32
 |[],done,_,h=>by simp;exact h
 | a::t,done,h,hd=>by
   simp only[dX]at h;split at h
   .cases h
   .split at h
    .cases h
    .split at h
     .cases h
     .rename_i h1 h2 h3;have:=ab6 t (done++[a]) h (by simp;omega);refine⟨by simpa using this.1,λb c=>?_⟩;rcases apP.1 c with rfl|c
      .exact wS (by simpa using h2)
      .exact this.2 b c
theorem Y1:∀(d:List Rdn) (i:Nat),jK i d=0->i<=32->i+d.length<=32/\∀r∈d,r.length<=8/\∀a∈r,a.1.length<=32
 |[],i,_,h=>by simp;exact h
 | r::d,i,h,hi=>by
   simp only[jK]at h;split at h
   .cases h
   .split at h
    .cases h
    .split at h
     .rename_i h3;exact absurd h h3
     .rename_i h1 h2 h3;have b:dX [] r=0:=(by simpa using h3);have e:=ab6 r [] b asQ;have a2:=Y1 d (i+1) h asP;refine⟨by simp;omega,λq c=>?_⟩;rcases apP.1 c with rfl|c
      .exact⟨by simpa using e.1,e.2⟩
      .exact a2.2 q c
theorem OD(s:List UInt8):(gS s).length<=3*s.length:=Tp _ _ _
theorem amp{key:Bool}{a:Ava}(f:a.1.length<=32)(d:a.2.length<=4096):(avT key a).length<=20000:=by
 have c:=OD a.2;have g:=OD (cg a.2);have b:=Ec a.2;have e:(ak a.1).length=a.1.length:=by simp[ak]
 unfold avT;split;simp;omega;simp;omega
theorem ZT{B:Nat}{sep:List UInt8}:∀xs:List (List UInt8),(∀x∈xs,x.length<=B)->(Lib.join xs sep).length<=xs.length*(B+sep.length)
 |[],_=>by simp[Lib.join]
 |[x],h=>by have:=h x asQ;simp[Lib.join,List.intercalate];omega
 | x::y::l,h=>by
   have a:=ZT (sep:=sep) (y::l) λz b=>h z (aqU _ b)
   have c:=h x asQ;have e:Lib.join (x::y::l) sep=x++(sep++Lib.join (y::l) sep):=(by simp[Lib.join,List.intercalate]);rw[e];simp only[apB,apC,arG]at a⊢;omega
theorem TF{key:Bool}{r:Rdn}(i:r.length<=8)(k:∀a∈r,a.1.length<=32)(j:∀a∈r,a.2.length<=4096):(dy key r).length<=200000:=by
 have e:∀xs:List (List UInt8),xs.length<=8->(∀x∈xs,x.length<=20000)->(Lib.join xs [43]).length<=200000:=λxs a b=>by have c:=ZT (sep:=[43]) xs b;have d:xs.length*(20000+[(43:UInt8)].length)<=8*(20000+1):=aqw _ a;omega
 have h:∀x∈r.map (avT key),x.length<=20000:=λx f=>by obtain⟨a,g,rfl⟩:=apz.1 f;exact amp (k a g) (j a g)
 unfold dy;split;refine e _ (by rw[abq];simpa using i) λx f=>h x ?_
 exact(aq8 (r.map (avT key)) _).mem_iff.1 f;exact e _ (by simpa using i) h
theorem Tz{key:Bool}{d:List Rdn}(g:d.length<=32)(f:∀r∈d,(dy key r).length<=200000):(bp key d).length<=10000000:=by
 have c:=ZT (sep:=[44]) (B:=200000) (d.map (dy key)) λx b=>by obtain⟨r,a,rfl⟩:=apz.1 b;exact f r a
 have e:(d.map (dy key)).length*(200000+[(44:UInt8)].length)<=32*(200000+1):=aqw _ (by simpa using g);unfold bp;omega
def prS(d:List Rdn):List UInt8×Int:=if jK 0 d≠0 then([],jK 0 d)else if JV d=true then([],5)else if 4096<(bp false d).length then([],5)else(bp false d,0)
def kG(p:List UInt8×Int):AV:=.tup [.str p.1,.int .i64 p.2]
def SF(d:List Rdn):List UInt8×Int:=if(prS d).2≠0 then([],(prS d).2)else(bp true d,0)
def ad5(s:List UInt8):List UInt8×Int:=if(dW s).2≠0 then([],(dW s).2)else SF (dW s).1
theorem lM{d:List Rdn}{cap:Option Nat}(O:d.length<=1100000)(g:∀r∈d,r.length<=1100000)(h:K (kG (prS d)) L):
  apq 36 [.sl (d.map aq) d.length cap] L K:=by
 have M:=hid (λk=>@nv d k);unfold prS kG at h;refine apo abc ?_;refine amc O g ?_;by_cases H:jK 0 d=0;rotate_left;rw[if_pos H]at h;replace h:=hid h;refine asX ?_;exact aa h.o;rw[if_neg (by simpa using H)]at h;obtain⟨N,f⟩:=Y1 d 0 H asP;rw[H];replace f:=hid f;replace h:=hid h;clear g O H;refine asX ?_;refine aj (λn T' L'=>∃(i:Nat) (c:Int) (Z:List Blk),n=d.length-i/\i<=d.length/\Hid (JV (d.take i)=false/\0<=c/\c<=8*i)/\T'=[(18,.int .i64 (i:Int)),(17,.int .i64 d.length),(16,.sl (d.map aq) d.length cap),(5,.int .i64 c),(0,.sl (d.map aq) d.length cap)]/\L'=L++Z) asT ⟨0,0,[],rfl,apv _,hid ⟨rfl,asP,asP⟩,rfl,asQ⟩ ?_;rintro _ _ _ ⟨i,c,X,rfl,hi,E,rfl,rfl⟩;by_cases l:i<d.length;have g1:(i:Int)<(d.length:Int):=asP;have g2:=apn i asP;have S:=M.o i l;have u:d.getD i []∈d:=by rw[apO,apD l];exact aqr _
 obtain⟨r,z⟩:=apl (d.getD i []);have A:d.take (i+1)=d.take i++[r]:=by rw[apK l,<- z];simp[l]
 rw[z]at S u;have U:=(f.o r u).1;have B:N5 r=true->K (.tup [.str [],.int .i64 5]) L:=λe=>by have q:=h.o;rw[if_pos (show JV d=true from aqZ.2 ⟨r,u,e⟩)]at q;exact q
 replace B:=hid B;replace A:=hid A;clear z u;refine wk ?_;refine aj (λn T' L'=>∃(k:Nat) (c':Int) (Z:List Blk),n=r.length-k/\k<=r.length/\X.length<=Z.length/\Hid (N5 (r.take k)=false/\c'=c+k)/\T'=[(24,.int .i64 (k:Int)),(23,.int .i64 r.length),(22,aq r),(18,.int .i64 (i:Int)),(17,.int .i64 d.length),(16,.sl (d.map aq) d.length cap),(5,.int .i64 c'),(0,.sl (d.map aq) d.length cap)]/\L'=L++Z) asT ⟨0,c,X,rfl,apv _,apt _,hid ⟨rfl,asP⟩,rfl,rfl⟩ ?_;rintro _ _ _ ⟨k,c',Z,rfl,hk,y,D,rfl,rfl⟩;replace y:=hid y;by_cases j:k<r.length;have g3:(k:Int)<(r.length:Int):=asP;have g4:=apn k asP;have g5:IntKind.i64.wrap (c'+1)=c'+1:=by obtain⟨_,Q,z2⟩:=E.o;have:=D.o.2;exact ae asP asP
 have P:=gQ j;have Y:k*2+2<=(bg r).length:=by rw[dp];omega
 obtain⟨⟨ty,J⟩,t⟩:∃a,r.getD k ([],[])=a:=⟨_,rfl⟩;have G:(ty,J)∈r:=by rw[<- t];simp[j]
 have p:r.take (k+1)=r.take k++[(ty,J)]:=by rw[apK j,<- t];simp[j]
 rw[t]at P;simp only[pD]at P;have Xj:4096<J.length->N5 r=true:=λe=>aqZ.2 ⟨_,G,by simpa using e⟩
 replace Xj:=hid Xj;replace p:=hid p;clear t G;by_cases R:(4096:Int)<(J.length:Int);have q:=hid (B.o (Xj.o asP));refine wk ?_;exact ac rfl q.o;refine wk ?_;refine asU asP (CutL (b:=?_)) ⟨k+1,c'+1,_,rfl,j,?_,hid ⟨?_,by have:=D.o.2;omega⟩,rfl,rfl⟩;have:=y.o;simp;omega;have:=y.o;simp;omega;rw[p.o,N5,ar4,show(r.take k).any _=N5 (r.take k)from rfl,D.o.1];simp;omega;have C:k=r.length:=asP;subst C;have g3:¬(r.length:Int)<(r.length:Int):=asP;have w:=D.o.1;rw[apJ]at w;replace w:=hid w;refine wk ?_;refine asU asP asS ⟨i+1,c',_,rfl,l,hid ⟨?_,?_,?_⟩,rfl,rfl⟩;rw[A.o,JV,ar4,show(d.take i).any _=JV (d.take i)from rfl,E.o.1];simp[w.o];obtain⟨_,Q,z2⟩:=E.o;have:=D.o.2;omega;obtain⟨_,Q,z2⟩:=E.o;have:=D.o.2;omega;have C:i=d.length:=asP;subst C;have g1:¬(d.length:Int)<(d.length:Int):=asP;have s:=E.o.1;rw[apJ]at s;have q:=h.o;rw[if_neg (by rw[s];simp)]at q;have I:∀r∈d,∀a∈r,a.2.length<=4096:=λr g a t=>by have V:=aq0.1 s r g;have F:N5 r=false:=(by simpa using V);unfold N5 at F;have m:=aq0.1 F a t;simpa using m
 have x:∀r∈d,(dy false r).length<=200000:=λr g=>TF (f.o r g).1 (f.o r g).2 (I r g)
 have W:=Tz asP x;replace q:=hid q;clear s;replace I:=hid I;replace x:=hid x;refine wk ?_;refine alb asP (λr g=>⟨by have:=(f.o r g).1;omega,λa t=>⟨by have:=(f.o r g).2 a t;omega,by have:=I.o r g a t;omega⟩⟩) (λr g=>by have:=x.o r g;omega) asP ?_;by_cases v:4096<(bp false d).length;have T:(4096:Int)<((bp false d).length:Int):=asP;have m:=q.o;rw[if_pos v]at m;replace m:=hid m;clear v;refine asX ?_;exact ac rfl m.o;have T:¬(4096:Int)<((bp false d).length:Int):=asP;have m:=q.o;rw[if_neg v]at m;replace m:=hid m;clear v;refine asX ?_;exact ac rfl m.o
theorem Zw{d:List Rdn}(h:(prS d).2=0):d.length<=32/\∀r∈d,r.length<=8/\∀a∈r,a.1.length<=32/\a.2.length<=4096:=by
 unfold prS at h;split at h;rename_i c;exact absurd h c;rename_i c;split at h;cases h;rename_i j;have m:jK 0 d=0:=by simpa using c
 obtain⟨n,i⟩:=Y1 d 0 m asP;have e:JV d=false:=by simpa using j
 refine⟨asP,λr f=>⟨(i r f).1,λa g=>⟨(i r f).2 a g,?_⟩⟩⟩;have k:=aq0.1 e r f;have b:N5 r=false:=by simpa using k
 unfold N5 at b;have l:=aq0.1 b a g;simpa using l
theorem SG{d:List Rdn}{cap:Option Nat}(l:d.length<=1100000)(b:∀r∈d,r.length<=1100000)(h:K (kG (SF d)) L):
  apq 58 [.sl (d.map aq) d.length cap] L K:=by
 unfold SF kG at h;refine apo ac1 ?_;refine lM l b ?_;unfold kG;obtain⟨⟨ps,k⟩,g⟩:∃p,prS d=p:=⟨_,rfl⟩;rw[g]at h⊢;simp only at h⊢;by_cases i:k=0;subst i;obtain⟨m,e⟩:=Zw (by rw[g]);rw[if_neg asQ]at h;have c:∀r∈d,(dy true r).length<=200000:=λr b=>TF (e r b).1 (λa f=>((e r b).2 a f).1) (λa f=>((e r b).2 a f).2)
 have j:=Tz asP c;replace h:=hid h;replace e:=hid e;replace c:=hid c;clear g b;refine asX ?_;refine agi asP (λr b=>⟨by have:=(e.o r b).1;omega,λa f=>⟨by have:=((e.o r b).2 a f).1;omega,by have:=((e.o r b).2 a f).2;omega⟩⟩) (λr b=>by have:=c.o r b;omega) asP ?_;refine asX ?_;exact aa h.o;rw[if_pos i]at h;replace h:=hid h;clear g b;refine asX ?_;exact aa h.o
theorem acu:∀(f:Nat) (out:List Rdn) (a:Rdn) (s:List UInt8),out.length<=32->a.length<=8->(∀r∈out,r.length<=8)->(tP f out a s).1.length<=33/\∀r∈(tP f out a s).1,r.length<=8
 |0,_,_,_,_,_,_=>by simp[tP]
 | f+1,out,a,s,h1,h2,h3=>by
   rw[tP];split
   .simp
   rename_i d;have c:∀t v:List UInt8,(a++[(t,v)]).length<=8:=λt v=>by simp;omega
   have b:∀t v:List UInt8,∀r∈out++[a++[(t,v)]],r.length<=8:=λt v r e=>by
    rcases apy.1 e with h|h
    .exact h3 r h
    .rw[apT.1 h];exact c t v
   split
   .simp
   split
   .simp
   split
   .simp
   split
   .simp
   split
   .simp
   split
   .exact⟨by simp;omega,b _ _⟩
   split
   .exact acu f _ _ _ (by simp;omega) asQ (b _ _)
   .exact acu f _ _ _ h1 (c _ _) h3
theorem OM(s:List UInt8):(dW s).1.length<=33/\∀r∈(dW s).1,r.length<=8:=by unfold dW;split;simp;split;simp;exact acu _ _ _ _ asQ asQ asQ
theorem amM{s:List UInt8}(h:K (kG (ad5 s)) L):apq 109 [.str s] L K:=by unfold ad5 at h;refine apo aeC ?_;refine act ?_;obtain⟨c,a⟩:=OM s;obtain⟨⟨i,f⟩,d⟩:∃p,dW s=p:=⟨_,rfl⟩;rw[d]at h c a⊢;simp only[aa0]at h c a⊢;clear d;by_cases e:f=0;subst e;rw[if_neg asQ]at h;replace h:=hid h;replace a:=hid a;refine asX ?_;refine SG asP (λr g=>by have:=a.o r g;omega) ?_;have b:=h.o;unfold kG at b⊢;replace b:=hid b;refine asX ?_;exact aa b.o;rw[if_pos e]at h;unfold kG at h;replace h:=hid h;clear c a;refine asX ?_;exact aa h.o
end Go.Proofs.YtdnfjhflkkpokaaGreatDoor.Av
