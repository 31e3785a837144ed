/- Joined texts of the walk, made small by a program. -/
import Derived.Test.YtdhjplmjpjfjnaaGreatHP4
import Derived.Test.YtdhjplmjpjfjnaaGreatRows
import Derived.KernelRfl
set_option linter.unusedSimpArgs false
set_option linter.unusedVariables false
set_option maxRecDepth 100000
namespace Go.Proofs.YtdhjplmjpjfjnaaGreat.Av
open Go
def uE:LSO:=[Am 2]
def uD:LSO:=[Am 3]
def uC:LSO:=[Ac 4 0]
def uB:LSO:=[Aa 5 4,Ai 6 5 1,Aa 7 0,Ae 8 7,Al 9 6 8]
def uA:List (aj×Kd) :=
 [Az 12 3,Az 13 0,Az 14 4,od 15 (.iaddr 1 (tm 13) (tm 14)) (.read 0 0),Ao 16 1 15 0 0,Az 17 0,Az 18 4,od 19 (.bin .add (tm 18) (iv 1)) .pure,
 od 20 (.iaddr 1 (tm 17) (tm 19)) (.read 0 0),Ao 21 1 20 0 0,od 22 (.build [(.str []),(.str [])] [(0,(1,(tm 16))),(1,(1,(tm 21)))]) .pure,
 od 23 (.bslice false 2 1 [(.str []),(.str [])] [(0,(2,(tm 22)))]) (.read 0 0),od 24 (.bslice false 1 1 [(.sl [] 0 (some 0))] [(0,(1,(tm 23)))]) (.read 0 0)]
def rz:List aj :=
 [⟨(some 25),(.app 1 1 24 [(.sl [] 0 (some 0))] (tm 12) (tm 24)),none⟩,⟨(some 3),(.mv (tm 25)),none⟩]
def uz:LSO:=[Aa 10 4,Ai 11 10 2,Aa 4 11]
def uy:LSO:=[Aa 26 3,Aa 2 26]
def qq:bh:=⟨27,(.seq (.sreg uE [])
 (.seq (.sreg uD [])
 (.seq (.seq (.sreg uC [])
 (.block 0 (.loop (.seq (.seq (.sreg uB B7)
 (.cond (tm 9) .skip
 (.exit 0)))
 (.seq (.block 1 (.dregM uA rz BM))
 (.sreg uz B5))))))
 (.seq (.sreg uy B4)
 .ret)))),[(.tmp 2)]⟩
attribute [push_cast] uE uD uC uB uA rz uz uy
theorem CR:bz Tryz.prog (fun _ _=>1) 38=some qq.raw:=by kernel_rfl
def rL:LSO:=[An 0]
def rK:LSO:=[o1 8 (.bslice false 1 2 [(.str []),(.str [])] [(0,(1,(.av (.str [100,99])))),(1,(1,(.av (.str [122]))))]),Ah 9 38 8,Ah 10 24 9,Aa 7 10,Ar 11 7,Aw 12 7,
 Aa 1 11,Aa 2 12]
def rJ:LSO:=[Aa 13 2,A2 14 13 0,Aa 15 14,.grp none 15 false
 [Ak 16 15 1,AS 17 15 16]
 18 (tm 17)]
def rI:LSO:=[An 0]
def rH:LSO:=[o1 19 (.bslice false 1 2 [(.str []),(.str [])] [(0,(1,(.av (.str [100,99])))),(1,(1,(.av (.str [122]))))]),Ah 20 38 19,
 o1 21 (.bslice false 1 4 [(.str []),(.str []),(.str []),(.str [])] [(0,(1,(.av (.str [111,117])))),(1,(1,(.av (.str [98])))),(2,(1,(.av (.str [100,99])))),(3,(1,(.av (.str [122]))))]),
 Ah 22 38 21,
 o1 23 (.bslice false 1 6 [(.str []),(.str []),(.str []),(.str []),(.str []),(.str [])] [(0,(1,(.av (.str [99,110])))),(1,(1,(.av (.str [97])))),(2,(1,(.av (.str [111,117])))),(3,(1,(.av (.str [98])))),(4,(1,(.av (.str [100,99])))),(5,(1,(.av (.str [122]))))]),
 Ah 24 38 23,
 o1 25 (.bslice false 1 4 [(.str []),(.str []),(.str []),(.str [])] [(0,(1,(.av (.str [111,117])))),(1,(1,(.av (.str [97])))),(2,(1,(.av (.str [100,99])))),(3,(1,(.av (.str [122]))))]),
 Ah 26 38 25,
 o1 27 (.bslice false 1 4 [(.sl [] 0 (some 0)),(.sl [] 0 (some 0)),(.sl [] 0 (some 0)),(.sl [] 0 (some 0))] [(0,(1,(tm 20))),(1,(1,(tm 22))),(2,(1,(tm 24))),(3,(1,(tm 26)))]),
 Ae 28 27,Ac 29 0]
def rG:LSO:=[Al 30 29 28]
def rF:LSO:=[Aj 31 1 27 29,Ab 32 1 31,Aa 4 32]
def rE:LSO:=[Aa 33 1,Aa 34 4,o1 35 (.build [(.int .i64 0),(.sl [] 0 (some 0)),(.sl [] 0 (some 0)),(.sl [] 0 (some 0))] [(0,(1,(iv 1))),(1,(1,(tm 34)))]),
 Aq 36 26 33 35,A2 37 36 0]
def rD:LSO:=[An 0]
def rC:LSO:=[Ai 38 29 1,Aa 29 38]
def pu:LSO:=[Aa 39 1,Ag 40 39,Ad 41 0 40,Ab 42 1 41,o1 43 (.call 12 [(tm 42),(iv 1),(iv 2)]),Aa 5 43]
def pr:LSO:=[Aa 44 1,
 o1 45 (.bslice false 1 4 [(.str []),(.str []),(.str []),(.str [])] [(0,(1,(.av (.str [79,85])))),(1,(1,(.av (.str [66])))),(2,(1,(.av (.str [100,99])))),(3,(1,(.av (.str [122]))))]),
 Ah 46 38 45,
 o1 47 (.bslice false 1 6 [(.str []),(.str []),(.str []),(.str []),(.str []),(.str [])] [(0,(1,(.av (.str [111,117])))),(1,(1,(.av (.str [120])))),(2,(1,(.av (.str [111,117])))),(3,(1,(.av (.str [97])))),(4,(1,(.av (.str [100,99])))),(5,(1,(.av (.str [122]))))]),
 Ah 48 38 47,o1 49 (.build [(.int .i64 0),(.sl [] 0 (some 0)),(.sl [] 0 (some 0)),(.sl [] 0 (some 0))] [(0,(1,(iv 4))),(1,(1,(tm 46))),(2,(1,(tm 48)))]),Aq 50 26 44 49,Aa 6 50]
def pq:LSO:=[Aa 51 5,Ae 52 51,Au 53 52 4,Aa 54 53,.grp none 54 true
 [Af 55 54 5,og 56 54 true (.iaddr 1 (tm 55) (iv 1)),As 57 54 1 56,AH 58 54 57 4]
 59 (tm 58),Aa 60 59,.grp none 60 true
 [Af 61 60 5,og 62 60 true (.iaddr 1 (tm 61) (iv 3)),As 63 60 1 62,AH 64 60 63 3]
 65 (tm 64),Aa 66 65,.grp none 66 true
 [Af 67 66 6,AH 68 66 67 0]
 69 (tm 68),Aa 70 69,.grp none 70 true
 [Af 71 70 1,AF 72 70 71,Ax 73 70 0 72,As 74 70 1 73,
 og 75 70 true (.bslice false 1 8 [(.str []),(.str []),(.str []),(.str []),(.str []),(.str []),(.str []),(.str [])] [(0,(1,(.av (.str [99,110])))),(1,(1,(.av (.str [97])))),(2,(1,(.av (.str [111,117])))),(3,(1,(.av (.str [120])))),(4,(1,(.av (.str [111,117])))),(5,(1,(.av (.str [97])))),(6,(1,(.av (.str [100,99])))),(7,(1,(.av (.str [122]))))]),
 og 76 70 true (.call 38 [(tm 75)]),AB 77 70 15 74 76,AH 78 70 77 3]
 79 (tm 78),Aa 0 79]
def oB:bh:=⟨80,(.seq (.sreg rL [])
 (.seq (.sreg rK BS)
 (.seq (.seq (.sreg rJ B6)
 (.cond (tm 18) (.seq (.sreg rI [])
 .ret)
 .skip))
 (.seq (.seq (.sreg rH [true,true,true,false,false,false,false,false,false,false,false])
 (.block 0 (.loop (.seq (.sreg rG [])
 (.seq (.cond (tm 30) .skip
 (.exit 0))
 (.seq (.block 1 (.seq (.sreg rF B5)
 (.seq (.sreg rE B7)
 (.cond (tm 37) (.seq (.sreg rD [])
 .ret)
 .skip))))
 (.sreg rC B4)))))))
 (.seq (.sreg pu B9)
 (.seq (.sreg pr BA)
 (.seq (.sdreg pq [.pure,(.read 0 0),.pure,.pure,.pure,(.read 0 0),(.read 0 0),.pure,.pure,.pure,.pure,(.read 0 0),(.read 0 0),.pure,.pure,.pure,.pure,.pure,.pure,.pure,.pure,(.read 0 0),.pure,(.read 0 0),(.read 0 0),(.read 0 0)] BJ)
 .ret))))))),[(.tmp 0)]⟩
attribute [push_cast] rL rK rJ rI rH rG rF rE rD rC pu pr pq
theorem zU:bz Tryz.prog (fun _ _=>1) 10=some oB.raw:=by kernel_rfl
def uN:LSO:=[A7 4,A7 5]
def uM:LSO:=[Aa 12 1,Ae 13 12,A3 14 13 40,Aa 15 14,.grp none 15 false
 [Ak 16 15 0,og 17 15 false (.build [(.int .i64 0),(.sl [] 0 (some 0)),(.sl [] 0 (some 0)),(.sl [] 0 (some 0))] [(1,(1,(tm 16)))]),Bj 18 15 14 17,Bp 19 15 18]
 20 (tm 19)]
def uL:LSO:=[A7 4,A7 5]
def uK:LSO:=[Aa 22 0,Ah 23 24 22,Aa 21 23,Ar 24 21,Aw 25 21,Aa 6 24,Aa 7 25]
def uJ:LSO:=[Aa 27 0,Ah 28 25 27,Aa 26 28,Ar 29 26,Aw 30 26,Aa 8 29,Aa 9 30]
def uI:LSO:=[Aa 31 1,Ae 32 31,Ac 33 0]
def uH:LSO:=[Al 34 33 32]
def uG:LSO:=[Aj 35 4 31 33,A1 36 4 35,o1 11 (.alloc [(.int .i64 0),(.sl [] 0 (some 0)),(.sl [] 0 (some 0)),(.sl [] 0 (some 0))]),Ay 4 11 36]
def gu:LSO:=[Aa 37 6,AN 38 37,Aa 39 38,.grp none 39 false
 [Ak 40 39 8,AS 41 39 40]
 42 (tm 41),Aa 43 42,.grp none 43 false
 [og 44 43 false (.load true 4 (tm 11)),Bj 45 43 14 44,Bp 46 43 45]
 47 (tm 46),Aa 48 47,.grp none 48 false
 [Ak 49 48 6,og 50 48 false (.load true 4 (tm 11)),Bo 51 48 26 49 50,Ak 52 48 8,og 53 48 false (.load true 4 (tm 11)),Bo 54 48 29 52 53,
 og 55 48 false (.bin .neq (tm 51) (tm 54))]
 56 (tm 55)]
def uF:LSO:=[A7 4,A7 5]
def rB:LSO:=[Ai 57 33 1,Aa 33 57]
def rA:LSO:=[Aa 58 6,Aa 59 8,Aa 4 58,Aa 5 59]
def cU:bh:=⟨60,(.seq (.sreg uN [])
 (.seq (.seq (.sreg uM B7)
 (.cond (tm 20) (.seq (.sreg uL [])
 .ret)
 .skip))
 (.seq (.sreg uK BT)
 (.seq (.sreg uJ BT)
 (.seq (.seq (.sreg uI [])
 (.block 0 (.loop (.seq (.sreg uH [])
 (.seq (.cond (tm 34) .skip
 (.exit 0))
 (.seq (.block 1 (.seq (.sreg uG B5)
 (.seq (.sdreg gu [.pure,.pure,.pure,.pure,.pure,.pure,.pure,(.read 0 0),(.read 0 0),.pure,.pure,.pure,.pure,(.read 0 0),.eff,.pure,(.read 1 0)] BA)
 (.cond (tm 56) (.seq (.sreg uF [])
 .ret)
 .skip))))
 (.sreg rB B4)))))))
 (.seq (.sreg rA BN)
 .ret)))))),[(.tmp 4),(.tmp 5)]⟩
attribute [push_cast] uN uM uL uK uJ uI uH uG gu uF rB rA
theorem fD:bz Tryz.prog (fun r i=>if r=8∧i=14 then 3 else 1) 9=some cU.raw:=by kernel_rfl
def lA:LSO:=[An 6]
def lz:LSO:=[Aa 13 0,Aa 14 1,Aq 15 9 13 14,Aa 12 15,Ar 16 12,Aw 17 12,Aa 7 16,Aa 8 17]
def ly:LSO:=[o1 18 (.call 10 []),AJ 19 18,Aa 20 19,.grp none 20 false
 [Ak 21 20 7,AS 22 20 21]
 23 (tm 22),Aa 24 23,.grp none 24 false
 [Ak 25 24 8,AS 26 24 25]
 27 (tm 26),Aa 28 27,.grp none 28 false
 [Ak 29 28 2,og 30 28 false (.build [(.int .i64 0),(.sl [] 0 (some 0)),(.sl [] 0 (some 0)),(.sl [] 0 (some 0))] [(1,(1,(tm 29)))]),Bj 31 28 14 30,Bp 32 28 31]
 33 (tm 32)]
def lx:LSO:=[o1 34 (.call 10 []),Aa 6 34]
def lw:LSO:=[Aa 35 7,Ag 36 35,Ad 37 0 36,Ab 38 1 37,Aa 39 2,Aq 40 15 38 39,Aa 9 40]
def lv:LSO:=[Aa 42 7,Ag 43 42,Ad 44 0 43,Ab 45 1 44,Aa 46 9,Aq 47 16 45 46,Aa 41 47,Ar 48 41,Aw 49 41,Aa 10 48,Aa 11 49]
def lu:LSO:=[Aa 50 9,Aa 51 8,Aa 52 2,Aq 53 17 51 52,AC 54 50 53,Aa 55 54,.grp none 55 true
 [Af 56 55 7,AF 57 55 56,Ax 58 55 0 57,As 59 55 1 58,Af 60 55 2,AB 61 55 19 59 60,Af 62 55 8,Af 63 55 2,AB 64 55 20 62 63,AB 65 55 18 61 64]
 66 (tm 65),Aa 67 66,.grp none 67 true
 [Af 68 67 9,og 69 67 true (.bin .gtr (tm 68) (iv 0)),Af 70 67 69,.grp (some (67,true)) 70 false
 [Ak 71 70 10,AI 72 70 71,Ak 73 70 11,AI 74 70 73,og 75 70 false (.bin .add (tm 72) (tm 74)),AT 76 70 75 0]
 77 (tm 76)]
 78 (tm 77),Aa 6 78]
def gJ:bh:=⟨79,(.seq (.sreg lA [])
 (.seq (.sreg lz BS)
 (.seq (.seq (.sreg ly BA)
 (.cond (tm 33) (.seq (.sreg lx B4)
 .ret)
 .skip))
 (.seq (.sreg lw B8)
 (.seq (.sreg lv [true,true,false,false,false,false,false,false,false,false,false])
 (.seq (.sreg lu BD)
 .ret)))))),[(.tmp 6)]⟩
attribute [push_cast] lA lz ly lx lw lv lu
theorem vt:bz Tryz.prog (fun _ _=>1) 4=some gJ.raw:=by kernel_rfl
end Go.Proofs.YtdhjplmjpjfjnaaGreat.Av
