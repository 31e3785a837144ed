/- Joined texts of the walk, made small by a program. -/
import Derived.Test.YtolfghcbbpcciaaGreatDoorGP4
import Derived.Test.YtolfghcbbpcciaaGreatDoorRows
import Derived.KernelRfl
import Derived.Test.YtolfghcbbpcciaaGreatDoorGD1
import Derived.Test.YtolfghcbbpcciaaGreatDoorGP5
import Derived.Test.YtolfghcbbpcciaaGreatDoorGD2
set_option linter.unusedSimpArgs false
set_option linter.unusedVariables false
set_option maxRecDepth 100000
namespace Go.Proofs.YtolfghcbbpcciaaGreatDoor.Av
open Go
def yw:LSO:=[Ah 2]
def yv:LSO:=[Aa 6 0,Al 7 37 6,Aa 3 7]
def yu:LSO:=[Aa 8 3,Ap 9 8,AS 10 9 1,Aa 11 10,.grp none 11 true
 [Ae 12 11 3,og 13 11 true (.len true (tm 12)),og 14 11 true (.bin .leq (tm 13) (iv 32))]
 15 (tm 14),Aa 4 15]
def yt:LSO:=[Ab 5 0]
def yr:LSO:=[Aa 16 5,Aa 17 3,Ap 18 17,Aj 19 16 18,Aa 20 19,.grp none 20 true
 [Ae 21 20 4]
 22 (tm 21)]
def yq:LSO:=[Aa 25 3,Aa 26 5,A0 27 25 26,
 o1 28 (.call 134 [(tm 27),(.av (.str [97,98,99,100,101,102,103,104,105,106,107,108,109,110,111,112,113,114,115,116,117,118,119,120,121,122]))]),Aa 29 28,.grp none 29 false
 [Af 30 29 5,A3 31 29 30 0,Af 32 29 31,.grp (some (29,false)) 32 true
 [Ae 33 32 3,Ae 34 32 5,AF 35 32 33 34,og 36 32 true (.call 134 [(tm 35),(.av (.str [48,49,50,51,52,53,54,55,56,57,45]))])]
 37 (tm 36)]
 38 (tm 37),Aa 4 38]
def yp:LSO:=[Aa 23 5,Ag 24 23 1,Aa 5 24]
def yo:LSO:=[Aa 39 4,Aa 2 39]
def qf:ba:=⟨40,(.seq (.sreg yw [])
 (.seq (.sreg yv BW)
 (.seq (.sreg yu BZ)
 (.seq (.seq (.sreg yt [])
 (.block 0 (.loop (.seq (.seq (.sreg yr BZ)
 (.cond (tm 22) .skip
 (.exit 0)))
 (.seq (.block 1 (.sreg yq Cb))
 (.sreg yp BW))))))
 (.seq (.sreg yo BV)
 .ret))))),[(.tmp 2)]⟩
attribute [push_cast] yw yv yu yt yr yq yp yo
theorem Kj:bb Tryz.prog (fun _ _=>1) 106=some qf.raw:=by kernel_rfl
def G3:LSO:=[Ah 4]
def G2:LSO:=[Ab 5 0]
def G1:LSO:=[Aa 6 5,Aa 7 1,Ap 8 7,Aj 9 6 8]
def G0:LSO:=[Aa 12 1,Aa 13 5,A0 14 12 13,Aa 15 0,A9 16 14 15]
def GZ:LSO:=[Aw 4]
def GY:LSO:=[Aa 10 5,Ag 11 10 1,Aa 5 11]
def GX:LSO:=[Ah 4]
def Gc:ba:=⟨17,(.seq (.sreg G3 [])
 (.seq (.seq (.sreg G2 [])
 (.block 0 (.loop (.seq (.seq (.sreg G1 BX)
 (.cond (tm 9) .skip
 (.exit 0)))
 (.seq (.block 1 (.seq (.sreg G0 BY)
 (.cond (tm 16) (.seq (.sreg GZ [])
 .ret)
 .skip)))
 (.sreg GY BW))))))
 (.seq (.sreg GX [])
 .ret))),[(.tmp 4)]⟩
attribute [push_cast] G3 G2 G1 G0 GZ GY GX
theorem Mu:bb Tryz.prog (fun _ _=>1) 134=some Gc.raw:=by kernel_rfl
def Ep:LSO:=[Ah 4]
def Eo:LSO:=[Aa 7 0,Ak 8 7,Ab 9 0]
def En:LSO:=[Aj 10 9 8]
def Em:LSO:=[Ao 11 2 7 9,Au 12 2 11,AT 6,An 2 6 12]
def El:LSO:=[Ad 13 0 6,Ac 14 1 13,Al 15 37 14,Aa 16 1,Al 17 37 16,A9 18 15 17]
def Ek:LSO:=[Aw 4]
def Ej:LSO:=[Ag 19 9 1,Aa 9 19]
def Ei:LSO:=[Ah 4]
def CO:ba:=⟨20,(.seq (.sreg Ep [])
 (.seq (.seq (.sreg Eo [])
 (.block 0 (.loop (.seq (.sreg En [])
 (.seq (.cond (tm 10) .skip
 (.exit 0))
 (.seq (.block 1 (.seq (.sreg Em BW)
 (.seq (.sreg El BZ)
 (.cond (tm 18) (.seq (.sreg Ek [])
 .ret)
 .skip))))
 (.sreg Ej BV)))))))
 (.seq (.sreg Ei [])
 .ret))),[(.tmp 4)]⟩
attribute [push_cast] Ep Eo En Em El Ek Ej Ei
theorem LY:bb Tryz.prog (fun _ _=>1) 107=some CO.raw:=by kernel_rfl
def tz:LSO:=[Ai 2,Ab 3 0]
def tx:LSO:=[Aa 12 0,Ap 13 12,Az 14 13 4096]
def tw:LSO:=[Ai 2,Ab 3 5]
def tv:LSO:=[Ai 4]
def tu:LSO:=[Ab 5 0]
def tt:LSO:=[Aa 15 0,Ap 16 15,Az 17 16 0]
def tq:LSO:=[Ai 6]
def tn:LSO:=[Aa 18 4,Ak 19 18,Aq 20 19 32]
def tl:LSO:=[Ai 2,Ab 3 9]
def tj:LSO:=[Aa 21 6,Ak 22 21,Aq 23 22 8]
def ot:LSO:=[Ai 2,Ab 3 9]
def oq:LSO:=[Aa 24 5,Aa 7 24]
def oo:LSO:=[Aa 25 7,Aa 26 0,Ap 27 26,Aj 28 25 27,Aa 29 28,.grp none 29 true
 [Ae 30 29 0,Ae 31 29 7,AF 32 29 30 31,og 33 29 true (.bin .neq (tm 32) (.av (.int .u8 61)))]
 34 (tm 33)]
def om:LSO:=[Aa 35 7,Ag 36 35 1,Aa 7 36]
def ol:LSO:=[Aa 37 7,Aa 38 0,Ap 39 38,A9 40 37 39,Aa 41 40,.grp none 41 false
 [Af 42 41 0,Af 43 41 5,Af 44 41 7,og 45 41 false (.slS (tm 42) (some (tm 43)) (some (tm 44))),AL 46 41 106 45,Bc 47 41 46]
 48 (tm 47)]
def oj:LSO:=[Ai 2,Ab 3 4]
def oi:LSO:=[Aa 49 0,Aa 50 5,Aa 51 7,BK 52 49 50 51,o1 53 (.build [(.str []),(.str [])] [(0,(1,(tm 52)))]),AT 8,An 2 8 53]
def oh:LSO:=[Aa 54 6,Ad 55 0 8,Ac 56 1 55,Ay 57 107 54 56]
def oe:LSO:=[Ai 2,Ab 3 21]
def oc:LSO:=[Aa 59 0,Aa 60 7,Ag 61 60 1,Ay 62 108 59 61,Aa 58 62,Ar 63 58,As 64 58,AX 65 58,Aa 9 63,Aa 10 64,Aa 11 65]
def ob:LSO:=[Aa 66 11,Ax 67 66]
def oa:LSO:=[Ai 2,Ab 3 4]
def n9:LSO:=[Aa 68 9,Ad 69 1 8,An 1 69 68]
def n8:LSO:=[Aa 70 6,Au 71 2 8,BL 72 71,Bn 73 70 72,Aa 6 73]
def n7:LSO:=[Aa 74 10,Aa 5 74]
def nZ:LSO:=[Aa 75 5,Aa 76 0,Ap 77 76,A9 78 75 77,Aa 79 78,.grp none 79 false
 [Af 80 79 0,Af 81 79 5,Be 82 79 80 81,og 83 79 false (.bin .eql (tm 82) (.av (.int .u8 44)))]
 84 (tm 83)]
def nY:LSO:=[Aa 85 5,Ag 86 85 1,Aa 5 86]
def nX:LSO:=[Aa 87 4,Aa 88 6,B3 89 88,B4 90 87 89,Aa 4 90]
def nW:LSO:=[Aa 91 5,Aa 92 0,Ap 93 92,A9 94 91 93]
def nV:LSO:=[Aa 95 4,Aa 2 95,Ab 3 0]
def nU:LSO:=[Aa 96 5,Ag 97 96 1,Aa 5 97]
def nT:LSO:=[Ai 2,Ab 3 0]
def k7:ba:=⟨98,(.seq (.sreg tz [])
 (.seq (.seq (.sreg tx BW)
 (.cond (tm 14) (.seq (.sreg tw [])
 .ret)
 .skip))
 (.seq (.sreg tv [])
 (.seq (.sreg tu [])
 (.seq (.block 0 (.loop (.seq (.seq (.sreg tt BW)
 (.cond (tm 17) .skip
 (.exit 0)))
 (.block 1 (.seq (.sreg tq [])
 (.seq (.seq (.sreg tn BW)
 (.cond (tm 20) (.seq (.sreg tl [])
 .ret)
 .skip))
 (.seq (.block 2 (.loop (.block 3 (.seq (.seq (.sreg tj BW)
 (.cond (tm 23) (.seq (.sreg ot [])
 .ret)
 .skip))
 (.seq (.sreg oq BV)
 (.seq (.block 4 (.loop (.seq (.seq (.sreg oo BZ)
 (.cond (tm 34) .skip
 (.exit 4)))
 (.block 5 (.sreg om BW)))))
 (.seq (.seq (.sreg ol BZ)
 (.cond (tm 48) (.seq (.sreg oj [])
 .ret)
 .skip))
 (.seq (.sreg oi BZ)
 (.seq (.seq (.sreg oh BX)
 (.cond (tm 57) (.seq (.sreg oe [])
 .ret)
 .skip))
 (.seq (.sreg oc [true,true,true,false,false,false,false,false,false,false,false])
 (.seq (.seq (.sreg ob BV)
 (.cond (tm 67) (.seq (.sreg oa [])
 .ret)
 .skip))
 (.seq (.sreg n9 Ck)
 (.seq (.sreg n8 BY)
 (.seq (.sreg n7 BV)
 (.seq (.seq (.sreg nZ BZ)
 (.cond (tm 84) (.exit 2)
 .skip))
 (.sreg nY BW))))))))))))))))
 (.seq (.sreg nX BY)
 (.seq (.seq (.sreg nW BX)
 (.cond (tm 94) (.seq (.sreg nV Ca)
 .ret)
 .skip))
 (.sreg nU BW))))))))))
 (.seq (.sreg nT [])
 .ret)))))),[(.tmp 2),(.tmp 3)]⟩
attribute [push_cast] tz tx tw tv tu tt tq tn tl tj ot oq oo om ol oj oi oh oe oc ob oa n9 n8 n7 nZ nY nX nW nV nU nT
theorem I7:bb Tryz.prog (fun _ _=>1) 74=some k7.raw:=by kernel_rfl
def sF:LSO:=[Am 4,Ab 5 0,Ah 6]
def sE:LSO:=[Ai 7]
def sD:LSO:=[Aw 8]
def sA:LSO:=[Aa 13 1,Aa 14 0,Ap 15 14,Aj 16 13 15,Aa 17 16,.grp none 17 true
 [Ae 18 17 0,Ae 19 17 1,AF 20 17 18 19,og 21 17 true (.bin .neq (tm 20) (.av (.int .u8 44)))]
 22 (tm 21),Aa 23 22,.grp none 23 true
 [Ae 24 23 0,Ae 25 23 1,AF 26 23 24 25,og 27 23 true (.bin .neq (tm 26) (.av (.int .u8 43)))]
 28 (tm 27)]
def sy:LSO:=[Aa 29 0,Aa 30 1,A0 31 29 30,Aa 9 31]
def sx:LSO:=[Aa 32 1,Ag 33 32 1,Aa 1 33]
def sw:LSO:=[Aa 34 1,Aa 35 0,Ap 36 35,A9 37 34 36,Aa 38 37,.grp none 38 false
 [Af 39 38 0,Af 40 38 1,Be 41 38 39 40,og 42 38 false (.bin .eql (tm 41) (.av (.int .u8 44)))]
 43 (tm 42),Aa 44 43,.grp none 44 false
 [Af 45 44 0,Af 46 44 1,Be 47 44 45 46,og 48 44 false (.bin .eql (tm 47) (.av (.int .u8 43)))]
 49 (tm 48),Aa 10 49]
def sv:LSO:=[Aa 50 9,o1 51 (.bin .eql (tm 50) (.av (.int .u8 92)))]
def su:LSO:=[Aa 52 1,Aa 53 0,Ap 54 53,Aj 55 52 54,Aa 56 55,.grp none 56 true
 [Ae 57 56 0,Ae 58 56 1,AF 59 56 57 58,og 60 56 true (.call 134 [(tm 59),(.av (.str [34,43,44,59,60,62,92,32,35,61]))])]
 61 (tm 60)]
def sr:LSO:=[Aa 62 7,Aa 63 0,Aa 64 1,A0 65 63 64,AD 66 65,A8 67 62 66,Aa 7 67]
def nn:LSO:=[Aa 68 1,Ag 69 68 1,Aa 1 69]
def nl:LSO:=[Aa 70 1,Ag 71 70 2,Aa 72 0,Ap 73 72,o1 74 (.bin .gtr (tm 71) (tm 73))]
def nk:LSO:=[Am 4,Ab 5 0,Ah 6]
def nj:LSO:=[Aa 76 0,Aa 77 1,Aa 78 1,Ag 79 78 2,BK 80 76 77 79,Al 81 135 80,Aa 75 81,Ar 82 75,As 83 75,Aa 11 82,Aa 12 83]
def ni:LSO:=[Aa 84 12,Ax 85 84]
def nh:LSO:=[Am 4,Ab 5 0,Ah 6]
def ng:LSO:=[Aa 86 7,Aa 87 11,Bz 88 87 0,AD 89 88,A8 90 86 89,Aa 7 90]
def nf:LSO:=[Aa 91 1,Ag 92 91 2,Aa 1 92]
def nd:LSO:=[Aa 93 9,B1 94 93,Aa 95 94,.grp none 95 false
 [Af 96 95 9,og 97 95 false (.call 134 [(tm 96),(.av (.str [34,59,60,62]))])]
 98 (tm 97),Aa 99 98,.grp none 99 false
 [Af 100 99 8,Af 101 99 100,.grp (some (99,false)) 101 true
 [Ae 102 101 9,og 103 101 true (.call 134 [(tm 102),(.av (.str [32,35]))])]
 104 (tm 103)]
 105 (tm 104),Aa 106 105,.grp none 106 false
 [Af 107 106 10,Af 108 106 107,.grp (some (106,false)) 108 true
 [Ae 109 108 9,Bf 110 108 109]
 111 (tm 110)]
 112 (tm 111)]
def nb:LSO:=[Am 4,Ab 5 0,Ah 6]
def na:LSO:=[Aa 113 7,Aa 114 9,AD 115 114,A8 116 113 115,Aa 7 116]
def m9:LSO:=[Ah 8]
def m8:LSO:=[Aa 117 7,AH 118 117,Aa 119 1,Aa 4 118,Aa 5 119,Aw 6]
def kX:ba:=⟨120,(.seq (.sreg sF [])
 (.seq (.sreg sE [])
 (.seq (.sreg sD [])
 (.seq (.block 0 (.loop (.seq (.seq (.sreg sA Ce)
 (.cond (tm 28) .skip
 (.exit 0)))
 (.block 1 (.seq (.sreg sy BX)
 (.seq (.sreg sx BW)
 (.seq (.sreg sw Cl)
 (.seq (.seq (.sreg sv BV)
 (.cond (tm 51) (.seq (.sreg su BZ)
 (.cond (tm 61) (.seq (.sreg sr Cb)
 (.sreg nn BW))
 (.seq (.seq (.sreg nl BY)
 (.cond (tm 74) (.seq (.sreg nk [])
 .ret)
 .skip))
 (.seq (.sreg nj [true,true,false,false,false,false,false,false,false,false,false])
 (.seq (.seq (.sreg ni BV)
 (.cond (tm 85) (.seq (.sreg nh [])
 .ret)
 .skip))
 (.seq (.sreg ng BZ)
 (.sreg nf BW)))))))
 (.seq (.seq (.sreg nd Ce)
 (.cond (tm 112) (.seq (.sreg nb [])
 .ret)
 .skip))
 (.sreg na BY))))
 (.sreg m9 [])))))))))
 (.seq (.sreg m8 [true,true,true,false,false,false])
 .ret))))),[(.tmp 4),(.tmp 5),(.tmp 6)]⟩
attribute [push_cast] sF sE sD sA sy sx sw sv su sr nn nl nk nj ni nh ng nf nd nb na m9 m8
theorem I4:bb Tryz.prog (fun _ _=>1) 108=some kX.raw:=by kernel_rfl
def kr:LSO:=[Am 2]
def kq:LSO:=[Ai 3]
def kp:LSO:=[Ab 4 0]
def ko:LSO:=[Aa 6 4,Aa 7 0,Ap 8 7,Aj 9 6 8]
def kl:LSO:=[Aa 12 0,Aa 13 4,A0 14 12 13,Aa 5 14]
def kk:LSO:=[Aa 15 5,B1 16 15]
def kj:LSO:=[Aa 17 3,o1 18 (.app 1 1 1 [(.int .u8 0)] (tm 17) (.av (.str [92,48,48]))),Aa 3 18]
def ki:LSO:=[Aa 19 5,o1 20 (.call 134 [(tm 19),(.av (.str [34,43,44,59,60,62,92]))]),Aa 21 20,.grp none 21 false
 [Af 22 21 4,AC 23 21 22 0,Af 24 21 23,.grp (some (21,false)) 24 true
 [Ae 25 24 5,og 26 24 true (.call 134 [(tm 25),(.av (.str [32,35]))])]
 27 (tm 26)]
 28 (tm 27),Aa 29 28,.grp none 29 false
 [Af 30 29 4,BT 31 29 30 1,Af 32 29 0,Ba 33 29 32,og 34 29 false (.bin .eql (tm 31) (tm 33)),Af 35 29 34,.grp (some (29,false)) 35 true
 [Ae 36 35 5,Bf 37 35 36]
 38 (tm 37)]
 39 (tm 38)]
def kg:LSO:=[Aa 40 3,o1 41 (.bslice false 1 1 [(.int .u8 0)] [(0,(1,(.av (.int .u8 92))))]),A8 42 40 41,Aa 3 42]
def kf:LSO:=[Aa 43 3,Aa 44 5,AD 45 44,A8 46 43 45,Aa 3 46]
def jp:LSO:=[Aa 10 4,Ag 11 10 1,Aa 4 11]
def jo:LSO:=[Aa 47 3,AH 48 47,Aa 2 48]
def iT:ba:=⟨49,(.seq (.sreg kr [])
 (.seq (.sreg kq [])
 (.seq (.seq (.sreg kp [])
 (.block 0 (.loop (.seq (.seq (.sreg ko BX)
 (.cond (tm 9) .skip
 (.exit 0)))
 (.seq (.block 1 (.seq (.sreg kl BX)
 (.seq (.seq (.sreg kk BV)
 (.cond (tm 16) (.seq (.sreg kj BW)
 (.exit 1))
 .skip))
 (.seq (.seq (.sreg ki BZ)
 (.cond (tm 39) (.sreg kg BX)
 .skip))
 (.sreg kf BY)))))
 (.sreg jp BW))))))
 (.seq (.sreg jo BW)
 .ret)))),[(.tmp 2)]⟩
attribute [push_cast] kr kq kp ko kl kk kj ki kg kf jp jo
theorem Gb:bb Tryz.prog (fun _ _=>1) 136=some iT.raw:=by kernel_rfl
def yn:LSO:=[Am 2]
def ym:LSO:=[Am 3]
def yl:LSO:=[Aa 8 0,Ak 9 8,Ab 10 0]
def yk:LSO:=[Aj 11 10 9]
def yj:LSO:=[Aa 12 10,Ao 13 1 8 10,Ac 14 1 13,Aa 4 12,Aa 5 14]
def yi:LSO:=[Aa 15 4,Az 16 15 0]
def yh:LSO:=[Aa 17 3,o1 18 (.bin .add (tm 17) (.av (.str [44]))),Aa 3 18]
def yg:LSO:=[Aa 19 5,Ak 20 19,Ab 21 0]
def yf:LSO:=[Aj 22 21 20]
def ye:LSO:=[Aa 23 21,Ao 24 2 19 21,Au 25 2 24,AT 7,Aa 6 23,An 2 7 25]
def sL:LSO:=[Aa 26 6,Az 27 26 0]
def sK:LSO:=[Aa 28 3,o1 29 (.bin .add (tm 28) (.av (.str [43]))),Aa 3 29]
def sJ:LSO:=[Aa 30 3,Ad 31 0 7,Ac 32 1 31,AE 33 30 32,o1 34 (.bin .add (tm 33) (.av (.str [61]))),Ad 35 1 7,Ac 36 1 35,Al 37 136 36,AE 38 34 37,Aa 3 38]
def sI:LSO:=[Ag 39 21 1,Aa 21 39]
def sH:LSO:=[Ag 40 10 1,Aa 10 40]
def sG:LSO:=[Aa 41 3,Aa 2 41]
def qe:ba:=⟨42,(.seq (.sreg yn [])
 (.seq (.sreg ym [])
 (.seq (.seq (.sreg yl [])
 (.block 0 (.loop (.seq (.sreg yk [])
 (.seq (.cond (tm 11) .skip
 (.exit 0))
 (.seq (.block 1 (.seq (.sreg yj Cc)
 (.seq (.seq (.sreg yi BV)
 (.cond (tm 16) (.sreg yh BW)
 .skip))
 (.seq (.sreg yg [])
 (.block 2 (.loop (.seq (.sreg yf [])
 (.seq (.cond (tm 22) .skip
 (.exit 2))
 (.seq (.block 3 (.seq (.sreg ye Cc)
 (.seq (.seq (.sreg sL BV)
 (.cond (tm 27) (.sreg sK BW)
 .skip))
 (.sdreg sJ [.pure,.pure,(.read 0 0),.pure,.pure,.pure,(.read 0 0),(.read 0 0)] Cv))))
 (.sreg sI BV))))))))))
 (.sreg sH BV)))))))
 (.seq (.sreg sG BV)
 .ret)))),[(.tmp 2)]⟩
attribute [push_cast] yn ym yl yk yj yi yh yg yf ye sL sK sJ sI sH sG
theorem Ki:bb Tryz.prog (fun _ _=>1) 110=some qe.raw:=by kernel_rfl
def ti:LSO:=[Am 2,Ab 3 0]
def th:LSO:=[Ab 4 0]
def tf:LSO:=[Aa 9 0,Ak 10 9,Ab 11 0]
def td:LSO:=[Aj 12 11 10]
def tc:LSO:=[Aa 13 11,Ao 14 1 9 11,Ac 15 1 14,Aa 5 13,Aa 6 15]
def ta:LSO:=[Aa 16 5,Aq 17 16 32]
def sZ:LSO:=[Am 2,Ab 3 9]
def sY:LSO:=[Aa 18 6,Ak 19 18,Aq 20 19 0]
def sX:LSO:=[Am 2,Ab 3 2]
def sW:LSO:=[Aa 21 6,Ak 22 21,Ab 23 0]
def nS:LSO:=[Aj 24 23 22]
def nR:LSO:=[Aa 25 23,Ao 26 2 21 23,Au 27 2 26,AT 8,Aa 7 25,An 2 8 27]
def nQ:LSO:=[Aa 28 7,Aq 29 28 8]
def nP:LSO:=[Am 2,Ab 3 9]
def nO:LSO:=[Ad 30 0 8,Ac 31 1 30,Al 32 106 31,Ax 33 32]
def nN:LSO:=[Am 2,Ab 3 20]
def nM:LSO:=[Aa 34 6,Aa 35 7,BM 36 34 35,Ad 37 0 8,Ac 38 1 37,Ay 39 107 36 38]
def nL:LSO:=[Am 2,Ab 3 21]
def nK:LSO:=[Aa 40 4,Ad 41 1 8,Ac 42 1 41,Ap 43 42,o1 44 (.minmax false [(tm 43),(iv 5000)]),AE 45 40 44,Aa 4 45]
def nJ:LSO:=[Ag 46 23 1,Aa 23 46]
def nI:LSO:=[Ag 47 11 1,Aa 11 47]
def nH:LSO:=[Aa 48 4,Az 49 48 4096,Aa 50 49,.grp none 50 false
 [Af 51 50 0,AL 52 50 110 51,Ba 53 50 52,A3 54 50 53 4096]
 55 (tm 54)]
def nG:LSO:=[Am 2,Ab 3 5]
def nF:LSO:=[Aa 56 0,Al 57 110 56,Aa 2 57,Ab 3 0]
def kZ:ba:=⟨58,(.seq (.sreg ti [])
 (.seq (.sreg th [])
 (.seq (.seq (.sreg tf [])
 (.block 0 (.loop (.seq (.sreg td [])
 (.seq (.cond (tm 12) .skip
 (.exit 0))
 (.seq (.block 1 (.seq (.sreg tc Cc)
 (.seq (.seq (.sreg ta BV)
 (.cond (tm 17) (.seq (.sreg sZ [])
 .ret)
 .skip))
 (.seq (.seq (.sreg sY BW)
 (.cond (tm 20) (.seq (.sreg sX [])
 .ret)
 .skip))
 (.seq (.sreg sW [])
 (.block 2 (.loop (.seq (.sreg nS [])
 (.seq (.cond (tm 24) .skip
 (.exit 2))
 (.seq (.block 3 (.seq (.sreg nR Cc)
 (.seq (.seq (.sreg nQ BV)
 (.cond (tm 29) (.seq (.sreg nP [])
 .ret)
 .skip))
 (.seq (.seq (.sreg nO BX)
 (.cond (tm 33) (.seq (.sreg nN [])
 .ret)
 .skip))
 (.seq (.seq (.sdreg nM [.pure,.pure,(.read 0 0),.pure,(.read 0 0)] BZ)
 (.cond (tm 39) (.seq (.sreg nL [])
 .ret)
 .skip))
 (.sreg nK Cb))))))
 (.sreg nJ BV)))))))))))
 (.sreg nI BV)))))))
 (.seq (.seq (.sreg nH BX)
 (.cond (tm 55) (.seq (.sreg nG [])
 .ret)
 .skip))
 (.seq (.sreg nF Cf)
 .ret))))),[(.tmp 2),(.tmp 3)]⟩
attribute [push_cast] ti th tf td tc ta sZ sY sX sW nS nR nQ nP nO nN nM nL nK nJ nI nH nG nF
theorem I6:bb Tryz.prog (fun _ _=>1) 109=some kZ.raw:=by kernel_rfl
def sV:LSO:=[Ai 2]
def sU:LSO:=[Ai 3]
def sT:LSO:=[Aa 12 0,Ak 13 12,Ab 14 0]
def sS:LSO:=[Aj 15 14 13]
def sR:LSO:=[Ao 16 1 12 14,Ac 17 1 16,Aa 5 17]
def sQ:LSO:=[Ai 6]
def sP:LSO:=[Aa 18 5,Ak 19 18,Ab 20 0]
def sO:LSO:=[Aj 21 20 19]
def sN:LSO:=[Ao 22 2 18 20,Au 23 2 22,AT 8,An 2 8 23]
def sM:List (ad×Kd) :=
 [AI 24 0 8,AJ 25 1 24 0 1,Bp 26 37 25 0 1,AI 27 1 8,AJ 28 1 27 0 1,Bp 29 56 28 0 1,od 30 (.build [(.str []),(.str [])] [(0,(1,(tm 26))),(1,(1,(tm 29)))]) .pure,
 od 9 (.alloc [(.str []),(.str [])]) .eff]
def np:List ad :=
 [⟨none,(.store 2 (tm 9) (tm 30)),none⟩]
def nE:LSO:=[Aa 31 6,Ak 32 31,Aa 10 32]
def nD:LSO:=[Aa 33 10,Az 34 33 0,Aa 35 34,.grp none 35 true
 [Ae 36 35 6,Ae 37 35 10,B6 38 35 37 1,Bo 39 35 2 36 38,Bi 40 35 0 39,AU 41 35 1 40,og 42 35 true (.bin .add (tm 41) (.av (.str [61]))),Ae 43 35 6,Ae 44 35 10,B6 45 35 44 1,
 Bo 46 35 2 43 45,Bi 47 35 1 46,AU 48 35 1 47,A5 49 35 136 48,og 50 35 true (.bin .add (tm 42) (tm 49)),Bi 51 35 0 9,AU 52 35 1 51,
 og 53 35 true (.bin .add (tm 52) (.av (.str [61]))),Bi 54 35 1 9,AU 55 35 1 54,A5 56 35 136 55,og 57 35 true (.bin .add (tm 53) (tm 56)),
 og 58 35 true (.bin .gtr (tm 50) (tm 57))]
 59 (tm 58)]
def nC:LSO:=[Aa 60 10,AA 61 60 1,Aa 10 61]
def nB:LSO:=[Ai 11]
def nA:LSO:=[Aa 62 11,Aa 63 6,Aa 64 10,BM 65 63 64,Bn 66 62 65,Aa 11 66]
def nz:LSO:=[Aa 67 11,Au 68 2 9,BL 69 68,Bn 70 67 69,Aa 11 70]
def ny:LSO:=[Aa 71 11,Aa 72 6,Aa 73 10,o1 74 (.slV 2 (tm 72) (some (tm 73)) none none),Bn 75 71 74,Aa 11 75]
def nx:LSO:=[Aa 76 11,Aa 6 76]
def nw:LSO:=[Ag 77 20 1,Aa 20 77]
def nu:LSO:=[Aa 78 3,Aa 79 6,B3 80 79,B4 81 78 80,Aa 3 81]
def nr:LSO:=[Ag 82 14 1,Aa 14 82]
def nq:LSO:=[Aa 83 3,Aa 2 83]
def kY:ba:=⟨84,(.seq (.sreg sV [])
 (.seq (.sreg sU [])
 (.seq (.seq (.sreg sT [])
 (.block 0 (.loop (.seq (.sreg sS [])
 (.seq (.cond (tm 15) .skip
 (.exit 0))
 (.seq (.block 1 (.seq (.sreg sR BW)
 (.seq (.sreg sQ [])
 (.seq (.seq (.sreg sP [])
 (.block 2 (.loop (.seq (.sreg sO [])
 (.seq (.cond (tm 21) .skip
 (.exit 2))
 (.seq (.block 3 (.seq (.sreg sN BW)
 (.seq (.dregM sM np Ce)
 (.seq (.sreg nE BW)
 (.seq (.block 4 (.loop (.seq (.seq (.sdreg nD [.pure,.pure,.pure,.pure,.pure,.pure,(.read 0 0),.pure,(.read 0 0),.pure,.pure,.pure,.pure,(.read 0 0),.pure,(.read 0 0),(.read 0 0),.pure,.pure,(.read 0 0),.pure,.pure,(.read 0 0),(.read 0 0),.pure] BX)
 (.cond (tm 59) .skip
 (.exit 4)))
 (.block 5 (.sreg nC BW)))))
 (.seq (.sreg nB [])
 (.seq (.sreg nA BZ)
 (.seq (.sreg nz BY)
 (.seq (.sreg ny BZ)
 (.sreg nx BV))))))))))
 (.sreg nw BV)))))))
 (.sreg nu BY)))))
 (.sreg nr BV)))))))
 (.seq (.sreg nq BV)
 .ret)))),[(.tmp 2)]⟩
attribute [push_cast] sV sU sT sS sR sQ sP sO sN sM np nE nD nC nB nA nz ny nx nw nu nr nq
theorem I5:bb Tryz.prog (fun _ _=>1) 111=some kY.raw:=by kernel_rfl
def yB:LSO:=[Am 2,Ab 3 0]
def yA:LSO:=[Aa 7 0,Al 8 109 7,Aa 6 8,Ar 9 6,As 10 6,Aa 4 9,Aa 5 10]
def yz:LSO:=[Aa 11 5,A7 12 11 0]
def yy:LSO:=[Aa 13 5,Am 2,Aa 3 13]
def yx:LSO:=[Aa 14 0,Al 15 111 14,Al 16 110 15,Aa 2 16,Ab 3 0]
def qg:ba:=⟨17,(.seq (.sreg yB [])
 (.seq (.sreg yA Cb)
 (.seq (.seq (.sreg yz BV)
 (.cond (tm 12) (.seq (.sreg yy Ca)
 .ret)
 .skip))
 (.seq (.sreg yx Cc)
 .ret)))),[(.tmp 2),(.tmp 3)]⟩
attribute [push_cast] yB yA yz yy yx
theorem Kk:bb Tryz.prog (fun _ _=>1) 75=some qg.raw:=by kernel_rfl
def Ev:LSO:=[Am 2,Ab 3 0]
def Eu:LSO:=[Aa 7 0,Al 8 74 7,Aa 6 8,Ar 9 6,As 10 6,Aa 4 9,Aa 5 10]
def Et:LSO:=[Aa 11 5,A7 12 11 0]
def Es:LSO:=[Aa 13 5,Am 2,Aa 3 13]
def Er:LSO:=[Aa 14 4,Al 15 75 14,Ar 16 15,As 17 15,Aa 2 16,Aa 3 17]
def CP:ba:=⟨18,(.seq (.sreg Ev [])
 (.seq (.sreg Eu Cd)
 (.seq (.seq (.sreg Et BV)
 (.cond (tm 12) (.seq (.sreg Es Ca)
 .ret)
 .skip))
 (.seq (.sreg Er Cr)
 .ret)))),[(.tmp 2),(.tmp 3)]⟩
attribute [push_cast] Ev Eu Et Es Er
theorem LZ:bb Tryz.prog (fun _ _=>1) 58=some CP.raw:=by kernel_rfl
variable {L:List Blk} {K:AV→List Blk→Prop}
set_option maxHeartbeats 8000000
set_option maxRecDepth 100000
theorem im {l:List UInt8} {x:UInt8} (hn:l.length≤1100000) (h:K (.bool (l.contains x)) L) :
   ao Tryz.prog 134 [.int .u8 x.toNat,.str l] L K:=by
 replace h:=hid h
 refine ag Mu (by simp [Gc]) ?_
 simp only [Gc,aN]
 refine wk ?_
 refine aI (fun n T' L'=>∃ (i:Nat),n=l.length - i∧i≤l.length∧Hid (∀ j,j<i→l.getD j 0≠x)∧T'=[(5,.int .i64 (i:Int)),(0,.int .u8 x.toNat),(1,.str l)]∧L=L') (CutS (b:=Nat.le_refl _)) ⟨0,rfl,Nat.zero_le _,hid (by simp),rfl,rfl⟩ ?_
 rintro _ _ _ ⟨i,rfl,hi,hno,rfl,rfl⟩
 by_cases hlt:i<l.length
 · have h1:(i:Int)<(l.length:Int):=by omega
   have h2:IntKind.i64.wrap ((i:Int)+1)=(i:Int)+1:=ac (by omega) (by omega)
   obtain ⟨p,hp⟩:∃ p,l.getD i 0=p:=⟨_,rfl⟩
   by_cases hpq:p=x
   · have hc:l.contains x=true:=by
       rw [List.contains_iff_mem,← hpq,← hp,List.getD_eq_getElem?_getD,List.getElem?_eq_getElem hlt]
       exact List.getElem_mem _
     have h':=h.out
     rw [hc] at h'
     replace h':=hid h'
     clear hc
     subst hpq
     refine wk ?_
     exact ab h'.out
   · have k1:¬ (p.toNat:Int)=(x.toNat:Int):=fun e=>hpq ((bf p x).1 e)
     have hp':=hid hp
     refine wk ?_
     refine az _ _ _ (by omega) (CutS (b:=Nat.le_refl _)) ⟨i+1,rfl,hlt,hid fun j hj=>?_,rfl,rfl⟩
     rcases Nat.lt_or_ge j i with e|e
     · exact hno.out j e
     · have:j=i:=by omega
       subst this
       rw [hp];exact hpq
 · have hke:i=l.length:=by omega
   subst hke
   have h1:¬ (l.length:Int)<(l.length:Int):=by omega
   have hc:l.contains x=false:=by
     rw [← Bool.not_eq_true,List.contains_iff_mem]
     intro hm
     obtain ⟨j,hj,e⟩:=List.mem_iff_getElem.1 hm
     exact hno.out j hj (by simp [hj,e])
   have h':=h.out
   rw [hc] at h'
   replace h':=hid h'
   clear hc
   refine wk ?_
   exact ab h'.out
abbrev iG:List UInt8:=[97,98,99,100,101,102,103,104,105,106,107,108,109,110,111,112,113,114,115,116,117,118,119,120,121,122]
abbrev M7:List UInt8:=[48,49,50,51,52,53,54,55,56,57,45]
theorem Vf:∀ n:_root_.Fin 256,iG.contains (iE (UInt8.ofNat n.val))=kL (n.val:Int)∧(iG.contains (iE (UInt8.ofNat n.val)) || M7.contains (iE (UInt8.ofNat n.val)))=IB (n.val:Int):=by decide +kernel
theorem NB (c:UInt8):iG.contains (iE c)=kL (c.toNat:Int)∧(iG.contains (iE c) || M7.contains (iE c))=IB (c.toNat:Int):=by
 have:=Vf ⟨c.toNat,c.toNat_lt⟩
 simpa using this
def okC (j:Nat) (c:UInt8):Bool:=iG.contains (iE c) || (decide (0<j) && M7.contains (iE c))
theorem Su (s:List UInt8):je s=true↔(1≤s.length∧s.length≤32)∧∀ j,j<s.length→okC j (s.getD j 0)=true:=by
 simp only [je,Bool.and_eq_true,decide_eq_true_eq,List.all_eq_true]
 constructor
 · rintro ⟨⟨⟨h1,h2⟩,h3⟩,h4⟩
   refine ⟨⟨h1,h2⟩,fun j hj=>?_⟩
   obtain ⟨e1,e2⟩:=NB (s.getD j 0)
   by_cases h0:j=0
   · subst h0
     rw [okC,e1,h3];rfl
   · have hm:s.getD j 0∈s:=by simp [hj]
     have:=h4 _ hm
     rw [← e2] at this
     rw [okC,show decide (0<j)=true by simp;omega,Bool.true_and]
     exact this
 · rintro ⟨⟨h1,h2⟩,h3⟩
   refine ⟨⟨⟨h1,h2⟩,?_⟩,fun c hc=>?_⟩
   · have:=h3 0 (by omega)
     rw [okC] at this
     simp only [Nat.lt_irrefl,decide_false,Bool.false_and,Bool.or_false] at this
     rw [← (NB _).1];exact this
   · obtain ⟨j,hj,rfl⟩:=List.mem_iff_getElem.1 hc
     have:=h3 j hj
     have e:s.getD j 0=s[j]:=by simp [hj]
     rw [e,okC] at this
     rw [← (NB _).2]
     cases hl:iG.contains (iE s[j]) with
     | true=>rfl
     | false =>
       rw [hl,Bool.false_or,Bool.and_eq_true] at this
       rw [this.2];rfl
theorem Og {s:List UInt8} (hs:(s.length:Int)≤140737488351232) (h:K (.bool (je s)) L):ao Tryz.prog 106 [.str s] L K:=by
 replace h:=hid h
 obtain ⟨t,ht⟩:∃ t,ak s=t:=⟨_,rfl⟩
 have htl:t.length=s.length:=by rw [← ht];simp [ak]
 have hg:∀ j,j<s.length→t.getD j 0=iE (s.getD j 0):=fun j hj=>by rw [← ht];simp [ak,hj]
 replace htl:=hid htl
 replace hg:=hid hg
 have hit:=hid (Su s)
 refine ag Kj (by simp [qf]) ?_
 simp only [qf,aN]
 refine wk ?_
 refine bL hs ?_
 rw [ht]
 refine sk ?_
 refine wk ?_
 refine aI (fun n T' L'=>∃ (i:Nat) (b:Bool),n=s.length+1 - i∧i≤s.length∧Hid (b=true↔(1≤s.length∧s.length≤32)∧∀ j,j<i→okC j (s.getD j 0)=true)∧T'=[(5,.int .i64 (i:Int)),(4,.bool b),(3,.str t)]∧L=L') (CutS (b:=Nat.le_refl _)) ⟨0,_,rfl,Nat.zero_le _,hid (by have:=htl.out;simp;omega),rfl,rfl⟩ ?_
 rintro _ _ _ ⟨i,b,rfl,hi,hb,rfl,rfl⟩
 have htl':=htl.out
 by_cases hlt:i<s.length
 · have g1:(i:Int)<(t.length:Int):=by omega
   have g2:IntKind.i64.wrap ((i:Int)+1)=(i:Int)+1:=ac (by omega) (by omega)
   have g3:=hg.out i hlt
   obtain ⟨c,hc⟩:∃ c,s.getD i 0=c:=⟨_,rfl⟩
   rw [hc] at g3
   replace hc:=hid hc
   clear htl'
   cases b with
   | false =>
     have hf:je s=false:=by
       rw [← Bool.not_eq_true,hit.out]
       intro ⟨q1,q2⟩
       have:=hb.out.2 ⟨q1,fun j hj=>q2 j (by omega)⟩
       cases this
     have h':=h.out
     rw [hf] at h'
     replace h':=hid h'
     clear hf
     refine wk ?_
     exact ab h'.out
   | true =>
     have hnext:okC i c=true↔((1≤s.length∧s.length≤32)∧∀ j,j<i+1→okC j (s.getD j 0)=true):=by
       have hb1:=hb.out.1 rfl
       constructor
       · intro e
         refine ⟨hb1.1,fun j hj=>?_⟩
         rcases Nat.lt_or_ge j i with q|q
         · exact hb1.2 j q
         · have:j=i:=by omega
           subst this;rw [hc.out];exact e
       · rintro ⟨_,e⟩
         have:=e i (by omega)
         rwa [hc.out] at this
     replace hnext:=hid hnext
     have hok:okC i c=(iG.contains (iE c) || (decide (0<i) && M7.contains (iE c))):=rfl
     replace hok:=hid hok
     refine wk ?_
     refine im (by simp) ?_
     cases hl:iG.contains (iE c) with
     | true =>
       have hk:=hid (show okC i c=true by rw [hok.out,hl];rfl)
       refine sk ?_
       refine wk ?_
       exact az _ _ _ (by omega) (CutL (b:=Nat.le_refl _)) ⟨i+1,true,rfl,hlt,hid (by rw [← hnext.out,hk.out]),rfl,rfl⟩
     | false =>
       by_cases h0:i=0
       · have hk:=hid (show okC i c=false by rw [hok.out,hl,h0];rfl)
         have k0:¬ (0:Int)<(i:Int):=by omega
         clear h0
         refine sk ?_
         refine wk ?_
         exact az _ _ _ (by omega) (CutL (b:=Nat.le_refl _)) ⟨i+1,false,rfl,hlt,hid (by rw [← hnext.out,hk.out]),rfl,rfl⟩
       · have hk:=hid (show okC i c=M7.contains (iE c) by rw [hok.out,hl,show decide (0<i)=true by simp;omega];simp)
         have k0:(0:Int)<(i:Int):=by omega
         clear h0
         refine sk ?_
         repeat' first
           | refine aT ?_
           | (first|refine aG (by kernel_rfl) ?_|refine ap (by kernel_rfl) ?_|refine aq ?_|refine aZ ?_|refine aO (fun _=>?_)|refine aj ?_|refine aK ?_)
             refine sm ?_
           | (first|refine aC (by kernel_rfl) ?_|refine aH ?_|refine aJ ?_|refine aU (ai ?_))
             refine sl ?_
           | exact aP
           | first|apply aQ|apply aD|apply aR|apply aE|apply aS|apply aF
           | refine aw ?_
           | first|refine ar rfl ?_|refine au rfl ?_|refine af rfl ?_ ?_|refine ay rfl (fun _=>?_) (fun _=>?_)|refine ax rfl (fun _=>?_) (fun _=>?_)
           | ((first|refine ae (fun _=>?_) (fun _=>?_)|refine ah (fun _=>?_) (fun _=>?_))<;>try refine sm ?_)
           | refine And.intro trivial ?_
           | refine And.intro (by omega) ?_
           | refine aA rfl (fun _=>?_) (fun _=>?_)
           | refine And.intro ?_ ?_
         refine aB (im (by simp) ⟨rfl,rfl⟩) ?_
         simp only [Kon,push_cast,reduceIte,Nat.reduceEqDiff,Nat.reduceAdd,Nat.reduceMul,Nat.reduceSub,Nat.reduceLT,Nat.reduceLeDiff,Int.reduceLT,Int.reduceLE,Int.reduceAdd,Int.reduceSub,Int.reduceNeg,Int.reduceToNat,Int.reduceEq,reduceCtorEq, *]
         repeat' first
           | refine aT ?_
           | (first|refine aG (by kernel_rfl) ?_|refine ap (by kernel_rfl) ?_|refine aq ?_|refine aZ ?_|refine aO (fun _=>?_)|refine aj ?_|refine aK ?_)
             refine sm ?_
           | (first|refine aC (by kernel_rfl) ?_|refine aH ?_|refine aJ ?_|refine aU (ai ?_))
             refine sl ?_
           | exact aP
           | first|apply aQ|apply aD|apply aR|apply aE|apply aS|apply aF
           | refine aw ?_
           | first|refine ar rfl ?_|refine au rfl ?_|refine af rfl ?_ ?_|refine ay rfl (fun _=>?_) (fun _=>?_)|refine ax rfl (fun _=>?_) (fun _=>?_)
           | ((first|refine ae (fun _=>?_) (fun _=>?_)|refine ah (fun _=>?_) (fun _=>?_))<;>try refine sm ?_)
           | refine And.intro trivial ?_
           | refine And.intro (by omega) ?_
           | refine aA rfl (fun _=>?_) (fun _=>?_)
           | refine And.intro ?_ ?_
         exact az _ _ _ (by omega) (CutL (b:=Nat.le_refl _)) ⟨i+1,M7.contains (iE c),rfl,hlt,hid (by rw [← hnext.out,hk.out]),rfl,rfl⟩
 · have hke:i=s.length:=by omega
   subst hke
   have g1:¬ (s.length:Int)<(t.length:Int):=by omega
   have hfin:b=je s:=by
     have e:=hb.out.trans hit.out.symm
     cases b<;>cases hs':je s<;>simp_all
   have h':=h.out
   rw [← hfin] at h'
   replace h':=hid h'
   clear hfin
   clear htl'
   refine wk ?_
   exact ab h'.out
theorem Qw {s:List UInt8} (hs:(s.length:Int)≤100000) (h:K (.bool (je s)) L):ao Tryz.prog 106 [.str s] L K:=Og (by omega) h
theorem SN {r:List Ava} {typ:List UInt8} {cap:Option Nat} (hn:r.length≤100000) (h1:∀ a∈r,(a.1.length:Int)≤100000) (h2:(typ.length:Int)≤100000) (h:K (.bool (iZ r typ)) L) :
   ao Tryz.prog 107 [Pu r cap,.str typ] L K:=by
 replace h:=hid h
 replace h1:=hid h1
 refine ag LY (by simp [CO]) ?_
 simp only [CO,aN]
 refine wk ?_
 refine aI (fun n T' L'=>∃ (k:Nat) (Z:List Blk),n=r.length - k∧k≤r.length∧Hid (iZ (r.take k) typ=false)∧T'=[(9,.int .i64 (k:Int)),(8,.int .i64 r.length),(7,Pu r cap),(1,.str typ)]∧L'=L++Z) (CutS (b:=by simp)) ⟨0,[],rfl,Nat.zero_le _,hid rfl,rfl,by simp⟩ ?_
 rintro _ _ _ ⟨k,Z,rfl,hk,hf,rfl,rfl⟩
 by_cases hlt:k<r.length
 · have g1:(k:Int)<(r.length:Int):=by omega
   have g2:IntKind.i64.wrap ((k:Int)+1)=(k:Int)+1:=ac (by omega) (by omega)
   have e1:=fi hlt
   have e2:k * 2+2≤(a7 r).length:=by rw [cX];omega
   obtain ⟨⟨ty,va⟩,ha⟩:∃ a,r.getD k ([],[])=a:=⟨_,rfl⟩
   have ham:(ty,va)∈r:=by rw [← ha];simp [hlt]
   have htk:r.take (k+1)=r.take k++[(ty,va)]:=by rw [List.take_succ_eq_append_getElem hlt,← ha];simp [hlt]
   rw [ha] at e1
   simp only [jN] at e1
   have hs:iZ (r.take (k+1)) typ=decide (ak ty=ak typ):=by
     have:=hf.out
     simp only [iZ] at this ⊢
     rw [htk,List.any_append,this];simp
   have ha1:=h1.out _ ham
   simp only at ha1
   have hall:ak ty=ak typ→iZ r typ=true:=fun e=>List.any_eq_true.2 ⟨_,ham,by simpa using e⟩
   replace hall:=hid hall
   replace hs:=hid hs
   clear ha ham htk
   by_cases hq:ak ty=ak typ
   · have h':=h.out
     rw [hall.out hq] at h'
     replace h':=hid h'
     have kk1:=@hid _ (fun L K=>ig ha1 (L:=L) (K:=K))
     have kk2:=@hid _ (fun L K=>ig h2 (L:=L) (K:=K))
     refine wk ?_
     exact aa rfl h'.out
   · have kk1:=@hid _ (fun L K=>ig ha1 (L:=L) (K:=K))
     have kk2:=@hid _ (fun L K=>ig h2 (L:=L) (K:=K))
     refine wk ?_
     exact az _ _ _ (by omega) (CutL (b:=by simp)) ⟨k+1,_,rfl,hlt,hid (by rw [hs.out];simpa using hq),rfl,rfl⟩
 · have hke:k=r.length:=by omega
   subst hke
   have g1:¬ (r.length:Int)<(r.length:Int):=by omega
   have hn':=hf.out
   rw [List.take_length] at hn'
   have h':=h.out
   rw [hn'] at h'
   replace h':=hid h'
   clear hn'
   refine wk ?_
   exact aa rfl h'.out
theorem gW {s:List UInt8} (hs:s.length≤100000) (h:K (.str (gu s)) L):ao Tryz.prog 136 [.str s] L K:=by
 replace h:=hid h
 refine ag Gb (by simp [iT]) ?_
 simp only [iT,aN]
 refine wk ?_
 refine cM (l:=[]) (n:=0) 3 1 rfl (Nat.zero_mul 1).symm ?_
 refine aI (fun n T' L'=>∃ (i m:Nat) (b:List UInt8),n=s.length - i∧i≤s.length∧m≤3 * i∧Hid (m=b.length∧b++wrL s.length i (s.drop i)=gu s)∧T'=[(4,.int .i64 (i:Int)),(3,.gsl (u8s b) m L.length 1),(0,.str s)]∧L'=L++[.spare m 1]) (CutS (b:=by simp)) ⟨0,0,[],rfl,Nat.zero_le _,by omega,hid ⟨rfl,rfl⟩,rfl,rfl⟩ ?_
 rintro _ _ _ ⟨i,m,b,rfl,hi,hm,hb,rfl,rfl⟩
 by_cases hlt:i<s.length
 · have g1:(i:Int)<(s.length:Int):=by omega
   have g2:IntKind.i64.wrap ((i:Int)+1)=(i:Int)+1:=ac (by omega) (by omega)
   obtain ⟨c,hc⟩:∃ c,s.getD i 0=c:=⟨_,rfl⟩
   have hdr:=gQ hlt
   rw [hc] at hdr
   have hb2:=hb.out.2
   rw [hdr] at hb2
   simp only [wrL] at hb2
   clear hdr
   replace hb2:=hid hb2
   obtain ⟨p1,hp1⟩:∃ p,([34,43,44,59,60,62,92]:List UInt8).contains c=p:=⟨_,rfl⟩
   obtain ⟨p2,hp2⟩:∃ p,([32,35]:List UInt8).contains c=p:=⟨_,rfl⟩
   have hq1:p1=true↔c∈([34,43,44,59,60,62,92]:List UInt8):=by rw [← hp1,List.contains_iff_mem]
   have hq2:p2=true↔(c=32∨c=35):=by rw [← hp2,List.contains_iff_mem];simp
   replace hq1:=hid hq1
   replace hq2:=hid hq2
   repeat' first
     | refine aT ?_
     | (first|refine aG (by kernel_rfl) ?_|refine ap (by kernel_rfl) ?_|refine aq ?_|refine aZ ?_|refine aO (fun _=>?_)|refine aj ?_|refine aK ?_|refine im (by simp) ?_|refine aL (im (by simp) ⟨rfl,rfl⟩) (im (by simp) ⟨rfl,rfl⟩) ?_|refine aB (im (by simp) ⟨rfl,rfl⟩) ?_)
       refine sm ?_
     | (first|refine aC (by kernel_rfl) ?_|refine aH ?_|refine aJ ?_|refine aU (ai ?_))
       refine sl ?_
     | exact aP
     | first|apply aQ|apply aD|apply aR|apply aE|apply aS|apply aF
     | refine aw ?_
     | first|refine ar rfl ?_|refine au rfl ?_|refine af rfl ?_ ?_|refine ay rfl (fun _=>?_) (fun _=>?_)|refine ax rfl (fun _=>?_) (fun _=>?_)
     | ((first|refine ae (fun _=>?_) (fun _=>?_)|refine ah (fun _=>?_) (fun _=>?_))<;>try refine sm ?_)
     | refine And.intro trivial ?_
     | refine And.intro (by omega) ?_
     | refine aA rfl (fun _=>?_) (fun _=>?_)
     | refine And.intro ?_ ?_
   · rfl
   · omega
   · rename_i h0
     have hc0:=(bf c 0).1 h0
     rw [show u8s b++AV.frzL (u8s [92,48,48])=u8s (b++[92,48,48]) by simp [u8s,AV.frzL,AV.frz]]
     refine az _ _ _ (by omega) (CutL (b:=by simp)) ⟨i+1,m+3,b++[92,48,48],rfl,hlt,by omega,hid ⟨by simp [hb.out.1],?_⟩,rfl,rfl⟩
     rw [← hb2.out,wrB,if_pos hc0,List.append_assoc]
   · rename_i h0 h1
     have hc0:¬ c=0:=fun e=>h0 ((bf c 0).2 e)
     have hq:(i=0∧(c=32∨c=35))∨(i+1=s.length∧c=32)∨c∈[34,43,44,59,60,62,92]:=by
       simp only [Bool.or_eq_true,Bool.and_eq_true,decide_eq_true_eq] at h1
       rcases h1 with (e|⟨e1,e2⟩)|⟨e1,e2⟩
       · exact .inr (.inr (hq1.out.1 e))
       · exact .inl ⟨by omega,hq2.out.1 e2⟩
       · exact .inr (.inl ⟨by omega,(bf c 32).1 e2⟩)
     rw [show u8s b++[AV.int IntKind.u8 92,AV.int IntKind.u8 (c.toNat:Int)]=u8s (b++[92,c]) by simp [u8s]]
     refine az _ _ _ (by omega) (CutL (b:=by simp)) ⟨i+1,m+1+1,b++[92,c],rfl,hlt,by omega,hid ⟨by simp [hb.out.1],?_⟩,rfl,rfl⟩
     rw [← hb2.out,wrB,if_neg hc0,if_pos hq,List.append_assoc]
   · rename_i h0 h1
     have hc0:¬ c=0:=fun e=>h0 ((bf c 0).2 e)
     have hq:¬ ((i=0∧(c=32∨c=35))∨(i+1=s.length∧c=32)∨c∈[34,43,44,59,60,62,92]):=fun hq=>by
       rw [← Bool.not_eq_true] at h1
       refine h1 ?_
       simp only [Bool.or_eq_true,Bool.and_eq_true,decide_eq_true_eq]
       rcases hq with ⟨e1,e2⟩|⟨e1,e2⟩|e
       · exact .inl (.inr ⟨by omega,hq2.out.2 e2⟩)
       · exact .inr ⟨by omega,(bf c 32).2 e2⟩
       · exact .inl (.inl (hq1.out.2 e))
     rw [show u8s b++[AV.int IntKind.u8 (c.toNat:Int)]=u8s (b++[c]) by simp [u8s]]
     refine az _ _ _ (by omega) (CutL (b:=by simp)) ⟨i+1,m+1,b++[c],rfl,hlt,by omega,hid ⟨by simp [hb.out.1],?_⟩,rfl,rfl⟩
     rw [← hb2.out,wrB,if_neg hc0,if_neg hq,List.append_assoc]
 · have hke:i=s.length:=by omega
   subst hke
   have g1:¬ (s.length:Int)<(s.length:Int):=by omega
   have e1:=fU b
   have e2:=fD b
   have e:=hb.out.2
   rw [List.drop_length,wrL,List.append_nil] at e
   have h':=h.out
   rw [← e] at h'
   replace h':=hid h'
   clear e
   refine wk ?_
   exact aa rfl h'.out
def RX (n:Nat):Nat:=if n<10 then 48+n else 87+n
theorem vE {n:Nat} (hn:n<16) (h:K (.int .u8 (RX n:Nat)) L):ao Tryz.prog 150 [.int .u8 n] L K:=by
 unfold RX at h
 refine ag I8 (by simp [k8]) ?_
 simp only [k8,aN]
 by_cases h1:n<10
 · rw [if_pos h1] at h
   replace h:=hid h
   have k1:(n:Int)<10:=by omega
   have k2:IntKind.u8.wrap (48+(n:Int))=48+(n:Int):=bQ (by omega) (by omega)
   clear h1
   refine wk ?_
   refine ab ?_
   simpa using h.out
 · rw [if_neg h1] at h
   replace h:=hid h
   have k1:¬ (n:Int)<10:=by omega
   have k2:IntKind.u8.wrap (97+(n:Int))=97+(n:Int):=bQ (by omega) (by omega)
   have k3:IntKind.u8.wrap (97+(n:Int) - 10)=97+(n:Int) - 10:=bQ (by omega) (by omega)
   clear h1
   refine wk ?_
   refine ab ?_
   have:=h.out
   rwa [show ((87+n:Nat):Int)=97+(n:Int) - 10 by omega] at this
theorem Vk:∀ (a:_root_.Fin 256) (x:_root_.Fin 16),(RX x.val=(iE (UInt8.ofNat a.val)).toNat)↔gi (UInt8.ofNat a.val)=some x.val:=by decide +kernel
theorem W0 {a:UInt8} {x:Nat} (hx:x<16):((RX x:Nat):Int)=((iE a).toNat:Int)↔gi a=some x:=by
 have:=Vk ⟨a.toNat,a.toNat_lt⟩ ⟨x,hx⟩
 simp only [UInt8.ofNat_toNat] at this
 rw [← this];omega
def PU (a b:UInt8) (k:Nat):Prop:=gi a=some (k / 16)∧gi b=some (k % 16)
theorem RJ {a b:UInt8} {k:Nat} (h:PU a b k):H6 a b=some (UInt8.ofNat k):=by
 obtain ⟨h1,h2⟩:=h
 simp only [H6,h1,h2]
 congr 2;omega
theorem RK {a b:UInt8} (h:∀ j,j<256→¬ PU a b j):H6 a b=none:=by
 unfold H6
 rcases h1:gi a with _|x
 · rfl
 · rcases h2:gi b with _|y
   · rfl
   · have:=Db h1
     have:=Db h2
     exact absurd ⟨by rw [h1];congr 1;omega,by rw [h2];congr 1;omega⟩ (h (16 * x+y) (by omega))
theorem Rm {a b:UInt8} (h:K (FY a b) L):ao Tryz.prog 135 [.str [a,b]] L K:=by
 obtain ⟨p,hp⟩:∃ p,iE a=p:=⟨_,rfl⟩
 obtain ⟨q,hq⟩:∃ q,iE b=q:=⟨_,rfl⟩
 have hf:ak [a,b]=[p,q]:=by simp [ak,hp,hq]
 have hl:[p,q].length=2:=rfl
 have hl':[a,b].length=2:=rfl
 have ha:[p,q].getD 0 0=p:=rfl
 have hb:[p,q].getD 1 0=q:=rfl
 have d1:Int.tmod 2 2=0:=by decide
 replace h:=hid h
 refine ag I9 (by simp [k9]) ?_
 simp only [k9,aN]
 refine wk ?_
 refine ig (by simp) ?_
 rw [hf]
 refine sk ?_
 refine wk ?_
 refine cM (l:=[]) (n:=0) 4 1 rfl (Nat.zero_mul 1).symm ?_
 refine aI (fun n T' L'=>(n=1∧T'=[(6,.int .i64 0),(4,.gsl [] 0 L.length 1),(5,.str [p,q]),(0,.str [a,b])]∧L'=L++[.spare 0 1])∨(n=0∧∃ (x:UInt8) (w:List AV),Hid (H6 a b=some x∧w=u8s [x])∧T'=[(6,.int .i64 2),(4,.gsl w 1 L.length 1),(5,.str [p,q]),(0,.str [a,b])]∧L'=L++[.spare 1 1])) (n0:=1) (T0:=[(6,.int .i64 0),(4,.gsl [] 0 L.length 1),(5,.str [p,q]),(0,.str [a,b])]) (L0:=L++[.spare 0 1]) (CutS (b:=by simp)) (.inl ⟨rfl,rfl,rfl⟩) ?_
 rintro _ _ _ (⟨rfl,rfl,rfl⟩|⟨rfl,x,w,hx,rfl,rfl⟩)
 · refine wk ?_
   refine aI (fun n T' L'=>(∃ k:Nat,n=257 - k∧k≤256∧Hid (∀ j,j<k→¬ PU a b j)∧T'=[(8,.int .i64 (k:Int)),(7,.bool false),(6,.int .i64 0),(4,.gsl [] 0 L.length 1),(5,.str [p,q]),(0,.str [a,b])]∧L'=L++[.spare 0 1])∨(n=0∧∃ (x:UInt8) (k:Nat) (w:List AV),k≤256∧Hid (H6 a b=some x∧w=u8s [x])∧T'=[(8,.int .i64 (k:Int)),(7,.bool true),(6,.int .i64 0),(4,.gsl w 1 L.length 1),(5,.str [p,q]),(0,.str [a,b])]∧L'=L++[.spare 1 1])) (n0:=257) (T0:=[(8,.int .i64 0),(7,.bool false),(6,.int .i64 0),(4,.gsl [] 0 L.length 1),(5,.str [p,q]),(0,.str [a,b])]) (L0:=L++[.spare 0 1]) (CutS (b:=by simp)) (.inl ⟨0,rfl,by omega,hid (by simp),rfl,rfl⟩) ?_
   rintro _ _ _ (⟨k,rfl,hk,hno,rfl,rfl⟩|⟨rfl,x,k,w,hk,hx,rfl,rfl⟩)
   · by_cases hlt:k<256
     · have g1:(k:Int)<256:=by omega
       have g2:IntKind.i64.wrap ((k:Int)+1)=(k:Int)+1:=ac (by omega) (by omega)
       have g3:IntKind.u8.wrap (k:Int)=(k:Int):=bQ (by omega) (by omega)
       obtain ⟨u,hu⟩:∃ u,k / 16=u:=⟨_,rfl⟩
       obtain ⟨v,hv⟩:∃ v,k % 16=v:=⟨_,rfl⟩
       have hu16:u<16:=by omega
       have hv16:v<16:=by omega
       have g4:IntKind.i64.wrap (Int.tdiv (k:Int) 16)=(u:Int):=by
         rw [Int.tdiv_eq_ediv_of_nonneg (by omega),ac (by omega) (by omega)];omega
       have g5:IntKind.u8.wrap (u:Int)=(u:Int):=bQ (by omega) (by omega)
       have g6:Int.tmod (k:Int) 16=(v:Int):=by
         rw [Int.tmod_eq_emod_of_nonneg (by omega)];omega
       have g7:IntKind.u8.wrap (v:Int)=(v:Int):=bQ (by omega) (by omega)
       have m1:=W0 (a:=a) hu16
       have m2:=W0 (a:=b) hv16
       rw [hp] at m1
       rw [hq] at m2
       have mk:PU a b k↔gi a=some u∧gi b=some v:=by unfold PU;rw [hu,hv]
       replace hu:=hid hu
       replace hv:=hid hv
       replace mk:=hid mk
       have nxt:=hid fun (e:¬ PU a b k)=>show ∀ j,j<k+1→¬ PU a b j from fun j hj=>by
         rcases Nat.lt_or_ge j k with e'|e'
         · exact hno.out j e'
         · rw [show j=k by omega];exact e
       by_cases h1:gi a=some u
       · have k1:=m1.2 h1
         by_cases h2:gi b=some v
         · have k2:=m2.2 h2
           have hx:=RJ (mk.out.2 ⟨h1,h2⟩)
           have hkk:((UInt8.ofNat k).toNat:Int)=(k:Int):=by simp;omega
           replace hkk:=hid hkk
           replace hx:=hid hx
           clear m1 m2 h1 h2
           have kk1:=@hid _ (fun L K=>vE hu16 (L:=L) (K:=K))
           have kk2:=@hid _ (fun L K=>vE hv16 (L:=L) (K:=K))
           refine wk ?_
           refine az _ _ _ (by omega) (CutL (b:=by simp)) (.inr ⟨rfl,UInt8.ofNat k,k+1,_,by omega,hid ⟨hx.out,?_⟩,rfl,rfl⟩)
           simp only [u8s,List.map,hkk.out]
         · have k2:¬ ((RX v:Nat):Int)=(q.toNat:Int):=fun e=>h2 (m2.1 e)
           have hn:=hid (nxt.out fun e=>h2 (mk.out.1 e).2)
           clear m1 m2 h1 h2
           have kk1:=@hid _ (fun L K=>vE hu16 (L:=L) (K:=K))
           have kk2:=@hid _ (fun L K=>vE hv16 (L:=L) (K:=K))
           refine wk ?_
           exact az _ _ _ (by omega) (CutL (b:=by simp)) (.inl ⟨k+1,rfl,by omega,hn,rfl,rfl⟩)
       · have k1:¬ ((RX u:Nat):Int)=(p.toNat:Int):=fun e=>h1 (m1.1 e)
         have hn:=hid (nxt.out fun e=>h1 (mk.out.1 e).1)
         clear m1 m2 h1
         have kk1:=@hid _ (fun L K=>vE hu16 (L:=L) (K:=K))
         refine wk ?_
         exact az _ _ _ (by omega) (CutL (b:=by simp)) (.inl ⟨k+1,rfl,by omega,hn,rfl,rfl⟩)
     · have hke:k=256:=by omega
       subst hke
       have h':=h.out
       simp only [FY,RK hno.out] at h'
       replace h':=hid h'
       have g1:¬ ((256:Nat):Int)<256:=by omega
       refine wk ?_
       exact aa rfl h'.out
   · by_cases hlt:(k:Int)<256
     · refine wk ?_
       exact az _ _ _ (by omega) (CutL (b:=by simp)) (.inr ⟨rfl,x,w,hx,rfl,rfl⟩)
     · refine wk ?_
       exact az _ _ _ (by omega) (CutL (b:=by simp)) (.inr ⟨rfl,x,w,hx,rfl,rfl⟩)
 · have h':=h.out
   simp only [FY,hx.out.1] at h'
   replace h':=hid h'
   rw [hx.out.2]
   have e1:=fU [x]
   have e2:=fD [x]
   refine wk ?_
   exact aa rfl h'.out
def gT (b:List UInt8) (bl:Bool) (s:List UInt8):Option (List UInt8×List UInt8):=match fR b bl s with
 | some (v,r,true)=>some (v,r)
 | _=>none
def Po (n:Nat) (o:Option (List UInt8×List UInt8)):AV:=match o with
 | none=>.tup [.str [],.int .i64 0,.bool false]
 | some (v,r)=>.tup [.str v,.int .i64 ((n - r.length:Nat):Int),.bool true]
theorem Q5 {b s:List UInt8} {c:UInt8} (h:c=44∨c=43):gT b false (c::s)=some (b,c::s):=by simp only [gT,lq h];rfl
theorem Pn {b s:List UInt8} {c:UInt8} (h:c=44∨c=43):gT b true (c::s)=none:=by simp only [gT,lq h];rfl
theorem Sn {b:List UInt8}:gT b false []=some (b,[]):=by simp only [gT,jc];rfl
theorem Q7 {b:List UInt8}:gT b true []=none:=by simp only [gT,jc];rfl
theorem So {b s:List UInt8} {bl:Bool} {c:UInt8} (h:¬ (c=44∨c=43)) (h2:c≠92) (hb:c=0∨c∈([34,59,60,62]:List UInt8)∨(b=[]∧(c=32∨c=35))):gT b bl (c::s)=none:=by
 simp only [gT,jb h h2,if_pos hb]
theorem KM {b s:List UInt8} {bl:Bool} {c:UInt8} (h:¬ (c=44∨c=43)) (h2:c≠92) (hb:¬ (c=0∨c∈([34,59,60,62]:List UInt8)∨(b=[]∧(c=32∨c=35)))):gT b bl (c::s)=gT (b++[c]) (decide (c=32)) s:=by
 simp only [gT,jb h h2,if_neg hb]
theorem Ky {x:UInt8} {L:List Blk} {K:AV→List Blk→Prop} (h:K (.bool (jg.contains x)) L):ao Tryz.prog 134 [.int .u8 x.toNat,.str jg] L K:=im (by simp) h
theorem Nn {a b c d x:UInt8} {L:List Blk} {K:AV→List Blk→Prop} (h:K (.bool ([a,b,c,d].contains x)) L):ao Tryz.prog 134 [.int .u8 x.toNat,.str [a,b,c,d]] L K:=im (by simp) h
theorem No {a b x:UInt8} {L:List Blk} {K:AV→List Blk→Prop} (h:K (.bool ([a,b].contains x)) L):ao Tryz.prog 134 [.int .u8 x.toNat,.str [a,b]] L K:=im (by simp) h
theorem SD {s:List UInt8} {at0:Nat} (hs:s.length≤100000) (hat:at0≤s.length) (h:K (Po s.length (gT [] false (s.drop at0))) L):ao Tryz.prog 108 [.str s,.int .i64 (at0:Int)] L K:=by
 obtain ⟨R,hR⟩:∃ R,gT [] false (s.drop at0)=R:=⟨_,rfl⟩
 rw [hR] at h
 replace h:=hid h
 refine ag I4 (by simp [kX]) ?_
 simp only [kX,aN]
 refine wk ?_
 refine cM (l:=[]) (n:=0) 7 1 rfl (Nat.zero_mul 1).symm ?_
 refine aI (fun n T' L'=>∃ (i m:Nat) (b:List UInt8) (bl fb:Bool),n=s.length - i∧i≤s.length∧m≤i∧Hid (m=b.length∧gT b bl (s.drop i)=R∧(bl=true→i<s.length∧s.getD i 0≠44∧s.getD i 0≠43)∧(fb=true↔b=[]))∧T'=[(8,.bool fb),(1,.int .i64 (i:Int)),(7,.gsl (u8s b) m L.length 1),(0,.str s)]∧L'=L++[.spare m 1]) (CutS (b:=by simp)) ⟨at0,0,[],false,true,rfl,hat,by omega,hid ⟨rfl,hR,by simp,by simp⟩,rfl,rfl⟩ ?_
 rintro _ _ _ ⟨i,m,b,bl,fb,rfl,hi,hm,hI,rfl,rfl⟩
 have e1:=fU b
 have e2:=fD b
 by_cases hlt:i<s.length
 · have g1:(i:Int)<(s.length:Int):=by omega
   have g2:IntKind.i64.wrap ((i:Int)+1)=(i:Int)+1:=ac (by omega) (by omega)
   obtain ⟨c,hc⟩:∃ c,s.getD i 0=c:=⟨_,rfl⟩
   have hdr:=gQ hlt
   rw [hc] at hdr
   have hb2:=hI.out.2.1
   rw [hdr] at hb2
   by_cases hcc:c=44∨c=43
   · have hbl:bl=false:=by
       cases bl with
       | false=>rfl
       | true =>
         obtain ⟨_,n1,n2⟩:=hI.out.2.2.1 rfl
         rw [hc] at n1 n2
         rcases hcc with e|e
         · exact absurd e n1
         · exact absurd e n2
     subst hbl
     rw [Q5 hcc] at hb2
     have h':=h.out
     rw [← hb2] at h'
     simp only [Po] at h'
     rw [← hdr,List.length_drop,show s.length - (s.length - i)=i by omega] at h'
     replace h':=hid h'
     have k1:((c.toNat:Int)=44)∨((c.toNat:Int)=43):=hcc.imp (bf c 44).2 (bf c 43).2
     clear hb2 hcc hdr
     rcases k1 with k1|k1
     · refine wk ?_
       exact aa rfl h'.out
     · refine wk ?_
       exact aa rfl h'.out
   · have k1:¬ (c.toNat:Int)=44:=fun e=>hcc (.inl ((bf c 44).1 e))
     have k2:¬ (c.toNat:Int)=43:=fun e=>hcc (.inr ((bf c 43).1 e))
     by_cases h92:c=92
     · subst h92
       have g3:IntKind.i64.wrap ((i:Int)+1+1)=(i:Int)+1+1:=ac (by omega) (by omega)
       have g4:IntKind.i64.wrap ((i:Int)+1+2)=(i:Int)+1+2:=ac (by omega) (by omega)
       have t1:((i:Int)+1).toNat=i+1:=by omega
       have t3:((i:Int)+1+2).toNat=i+3:=by omega
       by_cases h1:i+1<s.length
       · have f1:(i:Int)+1<(s.length:Int):=by omega
         have f0:¬ (i:Int)+1=(s.length:Int):=by omega
         obtain ⟨d,hd⟩:∃ d,s.getD (i+1) 0=d:=⟨_,rfl⟩
         have hdr1:=gQ h1
         rw [hd] at hdr1
         rw [hdr1] at hb2
         by_cases hsp:d∈jg
         · simp only [gT,C0 hsp] at hb2
           have f2:jg.contains d=true:=List.contains_iff_mem.2 hsp
           clear hdr hdr1 hcc
           replace hb2:=hid hb2
           have kk1:=@hid _ @Ky
           have kk2:=@hid _ @Nn
           have kk3:=@hid _ @No
           refine wk ?_
           rw [show u8s b++[AV.int IntKind.u8 (d.toNat:Int)]=u8s (b++[d]) by simp [u8s]]
           exact az _ _ _ (by omega) (CutL (b:=by simp)) ⟨i+1+1,m+1,b++[d],false,false,rfl,h1,by omega,hid ⟨by simp [hI.out.1],hb2.out,by simp,by simp⟩,rfl,rfl⟩
         · have f2:jg.contains d=false:=by
             rw [← Bool.not_eq_true,List.contains_iff_mem];exact hsp
           by_cases h2:i+2<s.length
           · have f3:¬ (s.length:Int)<(i:Int)+1+2:=by omega
             have f4:(i:Int)+1≤(i:Int)+1+2:=by omega
             have f5:(i:Int)+1+2≤(s.length:Int):=by omega
             have f6:(0:Int)≤(i:Int)+1:=by omega
             obtain ⟨e,he⟩:∃ e,s.getD (i+2) 0=e:=⟨_,rfl⟩
             have hdr2:=gQ h2
             rw [he] at hdr2
             rw [hdr2] at hb2
             simp only [gT,Gp hsp] at hb2
             have hcut:(s.drop (i+1)).take (i+3 - (i+1))=[d,e]:=by
               rw [hdr1,hdr2,show i+3 - (i+1)=2 by omega];rfl
             clear hdr hdr1 hdr2 hcc
             replace hb2:=hid hb2
             have kk1:=@hid _ @Ky
             have kk2:=@hid _ @Nn
             have kk3:=@hid _ @No
             refine wk ?_
             refine Rm ?_
             rcases hx:H6 d e with _|x
             · rw [show FY d e=.tup [.str [],.bool false] by simp only [FY,hx]]
               have h':=h.out
               rw [← hb2.out,hx] at h'
               simp only [Po] at h'
               replace h':=hid h'
               clear hx
               refine sk ?_
               refine wk ?_
               exact aa rfl h'.out
             · rw [show FY d e=.tup [.str [x],.bool true] by simp only [FY,hx]]
               have hb3:=hb2.out
               rw [hx] at hb3
               simp only at hb3
               replace hb3:=hid hb3
               have q1:[x].getD 0 0=x:=rfl
               clear hx hb2
               refine sk ?_
               refine wk ?_
               rw [show u8s b++[AV.int IntKind.u8 (x.toNat:Int)]=u8s (b++[x]) by simp [u8s]]
               exact az _ _ _ (by omega) (CutL (b:=by simp)) ⟨i+1+2,m+1,b++[x],false,false,rfl,h2,by omega,hid ⟨by simp [hI.out.1],hb3.out,by simp,by simp⟩,rfl,rfl⟩
           · have f3:(s.length:Int)<(i:Int)+1+2:=by omega
             have hnil:s.drop (i+1+1)=[]:=List.drop_eq_nil_of_le (by omega)
             rw [hnil] at hb2
             simp only [gT,CZ hsp] at hb2
             have h':=h.out
             rw [← hb2] at h'
             replace h':=hid h'
             clear hdr hdr1 hb2 hcc
             have kk1:=@hid _ @Ky
             have kk2:=@hid _ @Nn
             have kk3:=@hid _ @No
             refine wk ?_
             exact aa rfl h'.out
       · have f1:¬ (i:Int)+1<(s.length:Int):=by omega
         have f0:(i:Int)+1=(s.length:Int):=by omega
         have f3:(s.length:Int)<(s.length:Int)+2:=by omega
         have f4:¬ (s.length:Int)<(s.length:Int):=by omega
         have g5:IntKind.i64.wrap (s.length:Int)=(s.length:Int):=ac (by omega) (by omega)
         have g6:IntKind.i64.wrap ((s.length:Int)+2)=(s.length:Int)+2:=ac (by omega) (by omega)
         have hnil:s.drop (i+1)=[]:=List.drop_eq_nil_of_le (by omega)
         rw [hnil] at hb2
         simp only [gT,C2] at hb2
         have h':=h.out
         rw [← hb2] at h'
         replace h':=hid h'
         clear hdr hb2 hcc
         have kk1:=@hid _ @Ky
         have kk2:=@hid _ @Nn
         have kk3:=@hid _ @No
         refine wk ?_
         exact aa rfl h'.out
     · have k3:¬ (c.toNat:Int)=92:=fun e=>h92 ((bf c 92).1 e)
       obtain ⟨p1,hp1⟩:∃ p,([34,59,60,62]:List UInt8).contains c=p:=⟨_,rfl⟩
       obtain ⟨p2,hp2⟩:∃ p,([32,35]:List UInt8).contains c=p:=⟨_,rfl⟩
       have hq1:p1=true↔c∈([34,59,60,62]:List UInt8):=by rw [← hp1,List.contains_iff_mem]
       have hq2:p2=true↔(c=32∨c=35):=by rw [← hp2,List.contains_iff_mem];simp
       replace hq1:=hid hq1
       replace hq2:=hid hq2
       have h0:=hid (bf c 0)
       have h32:=hid (bf c 32)
       have hfb:=hid hI.out.2.2.2
       obtain ⟨lst,hlst⟩:∃ lst:Bool,decide (i+1<s.length→s.getD (i+1) 0=44∨s.getD (i+1) 0=43)=lst:=⟨_,rfl⟩
       have hbad:=hid fun (e:c=0∨c∈([34,59,60,62]:List UInt8)∨(b=[]∧(c=32∨c=35)))=>(show R=none by rw [← hb2,So hcc h92 e])
       have hend:=hid fun (e:lst=true∧c=32)=>(show R=none by
         by_cases eb:c=0∨c∈([34,59,60,62]:List UInt8)∨(b=[]∧(c=32∨c=35))
         · exact hbad.out eb
         · rw [← hb2,KM hcc h92 eb,e.2]
           have el:=of_decide_eq_true (hlst.trans e.1)
           simp only [decide_true]
           by_cases h1:i+1<s.length
           · rw [gQ h1,Pn (el h1)]
           · rw [List.drop_eq_nil_of_le (by omega),Q7])
       have hgo:=hid fun (e:¬ (c=0∨c∈([34,59,60,62]:List UInt8)∨(b=[]∧(c=32∨c=35))))=>(show gT (b++[c]) (decide (c=32)) (s.drop (i+1))=R by rw [← hb2,KM hcc h92 e])
       replace hlst:=hid hlst
       clear hdr hb2 hcc
       have bad:R=none→Fin L (.tup [.str [],.int .i64 0,.bool false]) (L++[.spare m 1]) K:=fun e=>aa rfl (by have h':=h.out;rwa [e] at h')
       replace bad:=hid bad
       by_cases h1:i+1<s.length
       · have f1:(i:Int)+1<(s.length:Int):=by omega
         have f0:¬ (i:Int)+1=(s.length:Int):=by omega
         have t1:((i:Int)+1).toNat=i+1:=by omega
         obtain ⟨d,hd⟩:∃ d,s.getD (i+1) 0=d:=⟨_,rfl⟩
         have hlst2:=hid (show lst=true↔((d.toNat:Int)=44∨(d.toNat:Int)=43) by
           rw [← hlst.out,decide_eq_true_eq,hd,show (44:Int)=((44:UInt8).toNat:Int) from rfl,show (43:Int)=((43:UInt8).toNat:Int) from rfl,bf,bf]
           exact ⟨fun e=>e h1,fun e _=>e⟩)
         repeat' first
           | refine aT ?_
           | (first|refine aG (by kernel_rfl) ?_|refine ap (by kernel_rfl) ?_|refine aq ?_|refine aZ ?_|refine aO (fun _=>?_)|refine aj ?_|refine aK ?_|refine im (by simp) ?_|refine aL (im (by simp) ⟨rfl,rfl⟩) (im (by simp) ⟨rfl,rfl⟩) ?_|refine aB (im (by simp) ⟨rfl,rfl⟩) ?_)
             refine sm ?_
           | (first|refine aC (by kernel_rfl) ?_|refine aH ?_|refine aJ ?_|refine aU (ai ?_))
             refine sl ?_
           | exact aP
           | first|apply aQ|apply aD|apply aR|apply aE|apply aS|apply aF
           | refine aw ?_
           | first|refine ar rfl ?_|refine au rfl ?_|refine af rfl ?_ ?_|refine ay rfl (fun _=>?_) (fun _=>?_)|refine ax rfl (fun _=>?_) (fun _=>?_)
           | ((first|refine ae (fun _=>?_) (fun _=>?_)|refine ah (fun _=>?_) (fun _=>?_))<;>try refine sm ?_)
           | refine And.intro trivial ?_
           | refine And.intro (by omega) ?_
           | refine aA rfl (fun _=>?_) (fun _=>?_)
           | refine And.intro ?_ ?_
         · rename_i hx
           refine bad.out ?_
           simp only [Bool.or_eq_true,Bool.and_eq_true,decide_eq_true_eq] at hx
           rcases hx with ((e|e)|⟨e,e'⟩)|e
           · exact hbad.out (.inl (h0.out.1 e))
           · exact hbad.out (.inr (.inl (hq1.out.1 e)))
           · exact hbad.out (.inr (.inr ⟨hfb.out.1 e,hq2.out.1 e'⟩))
           · exact hend.out ⟨hlst2.out.2 e.1,h32.out.1 e.2⟩
         · rename_i hx
           rw [← Bool.not_eq_true] at hx
           simp only [Bool.or_eq_true,Bool.and_eq_true,decide_eq_true_eq] at hx
           rw [show u8s b++[AV.int IntKind.u8 (c.toNat:Int)]=u8s (b++[c]) by simp [u8s]]
           refine az _ _ _ (by omega) (CutL (b:=by simp)) ⟨i+1,m+1,b++[c],decide (c=32),false,rfl,hlt,by omega,hid ⟨by simp [hI.out.1],?_,fun e=>?_,by simp⟩,rfl,rfl⟩
           · refine hgo.out fun e=>hx ?_
             rcases e with e|e|⟨e,e'⟩
             · exact .inl (.inl (.inl (h0.out.2 e)))
             · exact .inl (.inl (.inr (hq1.out.2 e)))
             · exact .inl (.inr ⟨hfb.out.2 e,hq2.out.2 e'⟩)
           · have e32:=h32.out.2 (of_decide_eq_true e)
             refine ⟨h1,?_,?_⟩
             · intro e4
               exact hx (.inr ⟨.inl (by rw [← hd,e4];rfl),e32⟩)
             · intro e4
               exact hx (.inr ⟨.inr (by rw [← hd,e4];rfl),e32⟩)
       · have f1:¬ (i:Int)+1<(s.length:Int):=by omega
         have f0:(i:Int)+1=(s.length:Int):=by omega
         have g5:IntKind.i64.wrap (s.length:Int)=(s.length:Int):=ac (by omega) (by omega)
         have hlst2:=hid (show lst=true by rw [← hlst.out,decide_eq_true_eq];exact fun e=>absurd e h1)
         repeat' first
           | refine aT ?_
           | (first|refine aG (by kernel_rfl) ?_|refine ap (by kernel_rfl) ?_|refine aq ?_|refine aZ ?_|refine aO (fun _=>?_)|refine aj ?_|refine aK ?_|refine im (by simp) ?_|refine aL (im (by simp) ⟨rfl,rfl⟩) (im (by simp) ⟨rfl,rfl⟩) ?_|refine aB (im (by simp) ⟨rfl,rfl⟩) ?_)
             refine sm ?_
           | (first|refine aC (by kernel_rfl) ?_|refine aH ?_|refine aJ ?_|refine aU (ai ?_))
             refine sl ?_
           | exact aP
           | first|apply aQ|apply aD|apply aR|apply aE|apply aS|apply aF
           | refine aw ?_
           | first|refine ar rfl ?_|refine au rfl ?_|refine af rfl ?_ ?_|refine ay rfl (fun _=>?_) (fun _=>?_)|refine ax rfl (fun _=>?_) (fun _=>?_)
           | ((first|refine ae (fun _=>?_) (fun _=>?_)|refine ah (fun _=>?_) (fun _=>?_))<;>try refine sm ?_)
           | refine And.intro trivial ?_
           | refine And.intro (by omega) ?_
           | refine aA rfl (fun _=>?_) (fun _=>?_)
           | refine And.intro ?_ ?_
         · rename_i hx
           refine bad.out ?_
           simp only [Bool.or_eq_true,Bool.and_eq_true,decide_eq_true_eq] at hx
           rcases hx with ((e|e)|⟨e,e'⟩)|e
           · exact hbad.out (.inl (h0.out.1 e))
           · exact hbad.out (.inr (.inl (hq1.out.1 e)))
           · exact hbad.out (.inr (.inr ⟨hfb.out.1 e,hq2.out.1 e'⟩))
           · exact hend.out ⟨hlst2.out,h32.out.1 e⟩
         · rename_i hx
           rw [← Bool.not_eq_true] at hx
           simp only [Bool.or_eq_true,Bool.and_eq_true,decide_eq_true_eq] at hx
           rw [show u8s b++[AV.int IntKind.u8 (c.toNat:Int)]=u8s (b++[c]) by simp [u8s]]
           refine az _ _ _ (by omega) (CutL (b:=by simp)) ⟨i+1,m+1,b++[c],decide (c=32),false,rfl,hlt,by omega,hid ⟨by simp [hI.out.1],?_,fun e=>?_,by simp⟩,rfl,rfl⟩
           · refine hgo.out fun e=>hx ?_
             rcases e with e|e|⟨e,e'⟩
             · exact .inl (.inl (.inl (h0.out.2 e)))
             · exact .inl (.inl (.inr (hq1.out.2 e)))
             · exact .inl (.inr ⟨hfb.out.2 e,hq2.out.2 e'⟩)
           · have e32:=h32.out.2 (of_decide_eq_true e)
             exact absurd (.inr e32) hx
 · have hke:i=s.length:=by omega
   subst hke
   have g1:¬ (s.length:Int)<(s.length:Int):=by omega
   have hbl:bl=false:=by
     cases bl with
     | false=>rfl
     | true=>exact absurd (hI.out.2.2.1 rfl).1 (by omega)
   subst hbl
   have h':=h.out
   rw [← hI.out.2.1,List.drop_length,Sn] at h'
   simp only [Po,List.length_nil,Nat.sub_zero] at h'
   replace h':=hid h'
   refine wk ?_
   exact aa rfl h'.out
theorem Sp:∀ (n:Nat) {s b:List UInt8} {bl:Bool} {v r:List UInt8} {ok:Bool},s.length≤n→fR b bl s=some (v,r,ok)→r <:+ s:=by
 intro n
 induction n with
 | zero =>
   intro s b bl v r ok hn h
   obtain rfl:=List.length_eq_zero_iff.1 (Nat.le_zero.1 hn)
   rw [jc] at h;cases h;exact List.suffix_refl _
 | succ n ih =>
   intro s b bl v r ok hn h
   cases s with
   | nil=>rw [jc] at h;cases h;exact List.suffix_refl _
   | cons c s =>
     simp only [List.length_cons] at hn
     by_cases hc:c=44∨c=43
     · rw [lq hc] at h;cases h;exact List.suffix_refl _
     by_cases h92:c=92
     · subst h92
       cases s with
       | nil=>rw [C2] at h;cases h
       | cons d s =>
         by_cases hd:d∈jg
         · rw [C0 hd] at h
           exact (ih (by simp at hn;omega) h).trans ((List.suffix_cons _ _).trans (List.suffix_cons _ _))
         · cases s with
           | nil=>rw [CZ hd] at h;cases h
           | cons e s =>
             rw [Gp hd] at h
             split at h
             · cases h
             · exact (ih (by simp at hn;omega) h).trans ((List.suffix_cons _ _).trans ((List.suffix_cons _ _).trans (List.suffix_cons _ _)))
     · rw [jb hc h92] at h
       split at h
       · cases h
       · exact (ih (by omega) h).trans (List.suffix_cons _ _)
theorem Q6 {s v r:List UInt8} (h:gT [] false s=some (v,r)):fR [] false s=some (v,r,true):=by
 unfold gT at h
 split at h
 · rename_i e;cases h;exact e
 · cases h
theorem MS (f:Nat) (out:List Rdn) (now:Rdn) (s:List UInt8):pp (f+1) out now s=if out.length=32∨now.length=8 then ([],9) else match iK s with
   | none=>([],4)
   | some (typ,rest)=>if je typ=false then ([],4) else if iZ now typ=true then ([],21) else match gT [] false rest with
     | none=>([],4)
     | some (v,r2)=>match r2 with
       | []=>(out++[now++[(typ,v)]],0)
       | c::s'=>if c=44 then pp f (out++[now++[(typ,v)]]) [] s' else pp f out (now++[(typ,v)]) s':=by
 rw [pp]
 congr 1
 rcases iK s with _|⟨typ,rest⟩
 · rfl
 · simp only
   congr 1
   congr 1
   unfold gT
   rcases fR [] false rest with _|⟨v,r2,ok⟩
   · rfl
   · cases ok<;>rfl
theorem RZ {s:List UInt8} {i j:Nat} (hij:i≤j) (hj:j<s.length) (hc:s.getD j 0≠61) (h:iK (s.drop i)=(iK (s.drop j)).map fun p=>((s.drop i).take (j - i)++p.1,p.2)) :
   iK (s.drop i)=(iK (s.drop (j+1))).map fun p=>((s.drop i).take (j+1 - i)++p.1,p.2):=by
 rw [h,gQ hj]
 simp only [iK,if_neg hc]
 have ht:(s.drop i).take (j+1 - i)=(s.drop i).take (j - i)++[s.getD j 0]:=by
   rw [show j+1 - i=(j - i)+1 by omega,List.take_succ_eq_append_getElem (by simp;omega)]
   congr 2
   simp [show i+(j - i)=j by omega,hj]
 rw [ht]
 rcases iK (s.drop (j+1)) with _|⟨a,b⟩
 · rfl
 · simp
theorem U1 {r:Rdn} {typ:List UInt8} {i n:Nat} (hr:r.length=n) (hn:n≤8) (h1:∀ a∈r,a.1.length≤32) (h2:typ.length≤4096) (h:K (.bool (iZ r typ)) L) :
   ao Tryz.prog 107 [.gsl (a7 r) n i 2,.str typ] L K:=by
 subst hr
 exact Jl (by simpa only [AV.frzL,AV.frz,fP] using SN (cap:=none) (by omega) (fun a ha=>by have:=h1 a ha;omega) (by omega) h)
theorem Rl {s:List UInt8} {z:Int} {at0:Nat} (hz:z=(at0:Int)) (hs:s.length≤100000) (hat:at0≤s.length) (h:K (Po s.length (gT [] false (s.drop at0))) L):ao Tryz.prog 108 [.str s,.int .i64 z] L K:=by
 subst hz;exact SD hs hat h
theorem SH {s:List UInt8} (h:K (PD (Dn s)) L):ao Tryz.prog 74 [.str s] L K:=by
 refine ag I7 (by simp [k7]) ?_
 simp only [k7,aN]
 by_cases h1:4096<s.length
 · have f1:(4096:Int)<(s.length:Int):=by omega
   rw [Dn,if_pos h1] at h
   replace h:=hid h
   clear h1
   refine wk ?_
   exact aX (ab h.out)
 have f1:¬ (4096:Int)<(s.length:Int):=by omega
 rw [Dn,if_neg h1] at h
 have hs:=hid (show s.length≤4096 by omega)
 clear h1
 obtain ⟨R,hR⟩:∃ R,(if s=[] then ([],0) else pp (s.length+1) [] [] s)=R:=⟨_,rfl⟩
 rw [hR] at h
 replace h:=hid h
 replace hR:=hid hR
 refine wk ?_
 refine cM (l:=[]) (n:=0) 4 1 rfl (Nat.zero_mul 1).symm ?_
 refine aI (fun n T' L'=>∃ (f m i:Nat) (out:List Rdn) (X:List Blk),f=n∧i≤s.length∧m≤32∧Hid (s≠[]→s.length - i<f∧pp f out [] (s.drop i)=R)∧Hid (s=[]→out=[])∧Hid (m=out.length)∧L'[L.length]?=some (.spare m 1)∧T'=[(5,.int .i64 (i:Int)),(4,.gsl (out.map bP) m L.length 1),(0,.str s)]∧L'=L++X) (CutS (b:=by simp)) ⟨s.length+1,0,0,[],[.spare 0 1],rfl,Nat.zero_le _,by omega,hid (fun e=>⟨by omega,by have:=hR.out;rw [if_neg e] at this;simpa using this⟩),hid (fun _=>rfl),hid rfl,by simp,rfl,rfl⟩ ?_
 rintro _ _ _ ⟨f,m,i,out,X,rfl,hi,hm32,hI,hI0,hm,ho,rfl,rfl⟩
 by_cases h0:s=[]
 · have h':=h.out
   rw [← hR.out,if_pos h0] at h'
   replace h':=hid h'
   have f2:¬ (0:Int)<(s.length:Int):=by rw [h0];simp
   clear h0
   refine wk ?_
   exact aX (aa rfl h'.out)
 obtain ⟨hf,hp⟩:=hI.out h0
 have f2:(0:Int)<(s.length:Int):=by have:=List.length_pos_iff.2 h0;omega
 clear hI hI0 hR h0
 have hB:L.length<(L++X).length:=(List.getElem?_eq_some_iff.1 ho).1
 by_cases hlim:m=32
 · obtain ⟨f,rfl⟩:∃ g,f=g+1:=⟨f - 1,by omega⟩
   rw [MS,if_pos (.inl (by rw [← hm.out];exact hlim))] at hp
   have h':=h.out
   rw [← hp] at h'
   replace h':=hid h'
   have k:(m:Int)=32:=by omega
   clear hp hlim hf
   refine wk ?_
   exact fk h'.out
 have k1:¬ (m:Int)=32:=by omega
 replace hp:=hid hp
 refine wk ?_
 refine aI (fun n T' L'=>∃ (g i:Nat) (now:Rdn) (v:AV) (Z:List Blk),g=n∧g≤f∧i≤s.length∧now.length≤8∧Hid (s.length - i<g∧pp g out now (s.drop i)=R∧(∀ a∈now,a.1.length≤32)∧WC L.length now v L')∧L'[L.length]?=some (.spare m 1)∧X.length≤Z.length∧T'=[(6,v),(5,.int .i64 (i:Int)),(4,.gsl (out.map bP) m L.length 1),(0,.str s)]∧L'=L++Z) (CutS (b:=by simp)) ⟨f,i,[],_,X,rfl,Nat.le_refl _,hi,by simp,hid ⟨hf,hp.out,by simp,.inl ⟨rfl,rfl,rfl⟩⟩,ho,Nat.le_refl _,rfl,rfl⟩ ?_
 clear hp hf ho hi
 rintro _ _ _ ⟨g,i,now,v,X1,rfl,hgf,hi,hn8,hI,ho,hXZ,rfl,rfl⟩
 obtain ⟨hf,hp,ht,hv⟩:=hI.out
 clear hI
 obtain ⟨g,rfl⟩:∃ g',g=g'+1:=⟨g - 1,by omega⟩
 have hB1:L.length<(L++X1).length:=(List.getElem?_eq_some_iff.1 ho).1
 refine N4 6 2 L.length rfl hB1 hv fun p Y hBi hpi=>?_
 rw [List.append_assoc] at hpi ⊢
 have ho2:(L++(X1++Y))[L.length]?=some (.spare m 1):=by rw [← List.append_assoc,List.getElem?_append_left hB1];exact ho
 have hXZ2:X.length≤(X1++Y).length:=by simp;omega
 generalize X1++Y=Z at hpi ho2 hXZ2 ⊢
 clear ho hB1 hv hXZ X1 Y
 replace hXZ2:=hid hXZ2
 have hpl:=(List.getElem?_eq_some_iff.1 hpi).1
 have hol:=(List.getElem?_eq_some_iff.1 ho2).1
 have hz:p - L.length≠0:=by omega
 obtain ⟨c,hc⟩:∃ c:Nat,now.length=c:=⟨_,rfl⟩
 rw [MS] at hp
 rw [hc] at hp hpi hn8 ⊢
 rw [List.length_append] at hpl hol
 replace hz:=hid hz
 replace hpl:=hid hpl
 replace hol:=hid hol
 by_cases hlim2:c=8
 · rw [if_pos (.inr hlim2)] at hp
   have h':=h.out
   rw [← hp] at h'
   replace h':=hid h'
   have k:(c:Int)=8:=by omega
   clear hp hlim2
   refine wk ?_
   exact fk h'.out
 rw [if_neg (by rw [← hm.out];omega)] at hp
 have k2:¬ (c:Int)=8:=by omega
 replace hp:=hid hp
 replace ht:=hid ht
 replace hf:=hid hf
 refine wk ?_
 refine aI (fun n T' L'=>∃ j:Nat,n=s.length - j∧i≤j∧j≤s.length∧Hid (iK (s.drop i)=(iK (s.drop j)).map fun p=>((s.drop i).take (j - i)++p.1,p.2))∧T'=[(7,.int .i64 (j:Int)),(6,.gsl (a7 now) c p 2),(5,.int .i64 (i:Int)),(4,.gsl (out.map bP) m L.length 1),(0,.str s)]∧L'=L++Z) (CutS (b:=by simp)) ⟨i,rfl,Nat.le_refl _,hi,hid (by rcases iK (s.drop i) with _|⟨a,b⟩<;>simp),rfl,rfl⟩ ?_
 rintro _ _ _ ⟨j,rfl,hij,hj,hcut,rfl,rfl⟩
 by_cases hjl:j<s.length
 rotate_left
 · have hje:j=s.length:=by omega
   subst hje
   have g1:¬ (s.length:Int)<(s.length:Int):=by omega
   have e:=hcut.out
   rw [List.drop_length] at e
   simp only [iK,Option.map_none] at e
   have h':=h.out
   rw [← hp.out,e] at h'
   simp only at h'
   replace h':=hid h'
   clear e
   refine wk ?_
   exact fk h'.out
 have g1:(j:Int)<(s.length:Int):=by omega
 have g2:IntKind.i64.wrap ((j:Int)+1)=(j:Int)+1:=ac (by omega) (by omega)
 obtain ⟨x,hx⟩:∃ x,s.getD j 0=x:=⟨_,rfl⟩
 by_cases h61:x=61
 rotate_left
 · have g3:¬ (x.toNat:Int)=61:=fun e=>h61 ((bf x 61).1 e)
   have hcut':=hid (RZ hij hjl (by rw [hx];exact h61) hcut.out)
   clear h61
   refine wk ?_
   exact az _ _ _ (by omega) (CutL (b:=by simp)) ⟨j+1,rfl,by omega,hjl,hcut',rfl,rfl⟩
 subst h61
 have g3:((61:UInt8).toNat:Int)=61:=rfl
 have hcutS:iK (s.drop i)=some ((s.drop i).take (j - i),s.drop (j+1)):=by
   rw [hcut.out,gQ hjl,hx]
   simp [iK]
 clear hcut
 obtain ⟨typ,htyp⟩:∃ t,(s.drop i).take (j - i)=t:=⟨_,rfl⟩
 have htl:typ.length≤4096:=by rw [← htyp];have:=hs.out;simp;omega
 have htl3:(typ.length:Int)≤100000:=by omega
 rw [htyp] at hcutS
 have hp2:=hp.out
 rw [hcutS] at hp2
 simp only at hp2
 have g4:¬ (j:Int)=(s.length:Int):=by omega
 have g5:(i:Int)≤(j:Int):=by omega
 have g6:(j:Int)≤(s.length:Int):=by omega
 replace hp2:=hid hp2
 clear hcutS hp
 cases hty:je typ with
 | false =>
   have h':=h.out
   rw [← hp2.out,if_pos hty] at h'
   replace h':=hid h'
   have kk1:=@hid _ (fun L K=>Qw htl3 (L:=L) (K:=K))
   refine wk ?_
   exact fk h'.out
 | true =>
 have hp3:=hp2.out
 rw [if_neg (by rw [hty];simp)] at hp3
 replace hp3:=hid hp3
 clear hp2
 have hpn:=hid (show p≠L.length+Z.length by have:=hpl.out;omega)
 have b1:∀ b,(L++(Z++[b]))[p]?=some (.spare c 2):=fun b=>by
   rw [← List.append_assoc,List.getElem?_append_left (List.getElem?_eq_some_iff.1 hpi).1];exact hpi
 have b2:∀ A b,(L++(Z++[b])).set p A=L++(Z.set (p - L.length) A++[b]):=fun A b=>by
   rw [List.set_append_right _ _ (by omega),List.set_append_left _ _ (by have:=hpl.out;omega)]
 have b3:∀ A b,(L++(Z.set (p - L.length) A++[b]))[L.length]?=some (.spare m 1):=fun A b=>by
   rw [← b2,List.getElem?_set_ne (by omega),← List.append_assoc,List.getElem?_append_left (List.getElem?_eq_some_iff.1 ho2).1];exact ho2
 have b4:∀ A b,(L++(Z.set (p - L.length) A++[b]))[p]?=some A:=fun A b=>by
   rw [← b2,List.getElem?_set,if_pos rfl,if_pos (by have:=hpl.out;simp;omega)]
 have hsl:(i:Int).toNat=i:=by omega
 have kk1:=@hid _ (fun L K=>Qw htl3 (L:=L) (K:=K))
 refine wk ?_
 refine U1 hc hn8 ht.out (by omega) ?_
 cases hha:iZ now typ with
 | true =>
   have h':=h.out
   rw [← hp3.out,if_pos hha] at h'
   replace h':=hid h'
   refine sk ?_
   refine wk ?_
   exact fk h'.out
 | false =>
 have hp4:=hp3.out
 rw [if_neg (by rw [hha];simp)] at hp4
 replace hp4:=hid hp4
 clear hp3
 refine sk ?_
 refine wk ?_
 refine Rl (at0:=j+1) (by omega) (by have:=hs.out;omega) hjl ?_
 rcases hvl:gT [] false (s.drop (j+1)) with _|⟨w,r2⟩
 · have h':=h.out
   rw [← hp4.out,hvl] at h'
   simp only at h'
   replace h':=hid h'
   simp only [Po]
   refine sk ?_
   refine wk ?_
   exact fk h'.out
 have hp5:=hp4.out
 rw [hvl] at hp5
 simp only at hp5
 have hsuf:=Sp _ (Nat.le_refl _) (Q6 hvl)
 have hsd:r2=s.drop (s.length - r2.length):=List.suffix_iff_eq_drop.1 (hsuf.trans (List.drop_suffix _ _))
 have hl2:r2.length≤s.length - (j+1):=by have:=hsuf.length_le;simpa using this
 obtain ⟨t,ht0⟩:∃ t,s.length - r2.length=t:=⟨_,rfl⟩
 rw [ht0] at hsd
 have htj:j<t:=by omega
 have hts:t≤s.length:=by omega
 simp only [Po,ht0]
 replace hp5:=hid hp5
 clear hp4 hvl hsuf
 replace hsd:=hid hsd
 have q1:(c+1) * 32≤140737488355328:=by omega
 have q2:c+1≤140737488355328:=by omega
 have q3:(m+1) * 24≤140737488355328:=by omega
 have q4:m+1≤140737488355328:=by omega
 have e1:a7 now++[AV.str typ,AV.str w]=a7 (now++[(typ,w)]):=(Ng _ _ _).symm
 have e2:out.map bP++[AV.sl (AV.frzL (a7 now++[AV.str typ,AV.str w])) (c+1) none]=(out++[now++[(typ,w)]]).map bP:=by
   rw [e1,fP,List.map_append]
   simp [hc]
 have e3:(out++[now++[(typ,w)]]).length=m+1:=by simp [hm.out]
 have e4:(now++[(typ,w)]).length=c+1:=by simp [hc]
 have e5:∀ a∈now++[(typ,w)],a.1.length≤32:=fun a ha=>by
   rcases List.mem_append.1 ha with h|h
   · exact ht.out a h
   · rw [List.mem_singleton.1 h];exact lr hty
 have s4:∀ (W:List Blk) A,(L++W).set L.length A=L++W.set 0 A:=fun W A=>by rw [List.set_append_right _ _ (Nat.le_refl _),Nat.sub_self]
 have g7:IntKind.i64.wrap ((t:Int)+1)=(t:Int)+1:=ac (by have:=hs.out;omega) (by have:=hs.out;omega)
 replace e1:=hid e1
 replace e2:=hid e2
 replace e3:=hid e3
 replace e4:=hid e4
 replace e5:=hid e5
 cases r2 with
 | nil =>
   have h':=h.out
   rw [← hp5.out] at h'
   simp only at h'
   replace h':=hid h'
   have hte:t=s.length:=by simp at ht0;omega
   subst hte
   refine sk ?_
   refine wk ?_
   rw [e2.out]
   refine aX (aa ?_ ?_)
   · simp only [AV.frz,AV.frzL,lz,AV.refs,AV.refsL,C4,Bool.and_self]
   · simp only [AV.frz,AV.frzL,lz]
     have:=h'.out
     simp only [PD,e3.out] at this
     exact this
 | cons x s' =>
   simp only at hp5
   have htl2:t<s.length:=by simp at ht0 hl2;omega
   have k3:¬ (t:Int)=(s.length:Int):=by omega
   have k4:(t:Int)<(s.length:Int):=by omega
   have hxd:=hsd.out
   rw [gQ htl2] at hxd
   obtain ⟨hx1,hx2⟩:=List.cons.inj hxd
   have hx3:=hx1.symm
   replace hx2:=hid hx2
   clear hxd hx1
   by_cases hx:x=44
   · subst hx
     refine sk ?_
     refine wk ?_
     rw [e2.out]
     refine az _ _ _ ?_ (CutS (b:=?_)) ⟨g,m+1,t+1,out++[now++[(typ,w)]],_,rfl,htl2,?_,hid fun _=>⟨?_,?_⟩,hid fun e=>?_,hid e3.out.symm,?_,rfl,rfl⟩
     · omega
     · simp
     · have:=hm.out;omega
     · have:=hf.out;omega
     · rw [← hx2.out,← hp5.out,if_pos rfl]
     · rw [e] at htl2;simp at htl2
     · rw [← s4,List.getElem?_set,if_pos rfl,if_pos (by simp)]
   · have q6:¬ (x.toNat:Int)=44:=fun e=>hx ((bf x 44).1 e)
     refine sk ?_
     refine wk ?_
     rw [e1.out]
     refine az _ _ _ ?_ (CutS (b:=?_)) ⟨g,t+1,now++[(typ,w)],_,_,rfl,?_,htl2,?_,hid ⟨?_,?_,e5.out,.inr ⟨p,hBi,by rw [e4.out],by rw [e4.out];exact b4 _ _⟩⟩,b3 _ _,?_,rfl,rfl⟩
     · omega
     · have:=hXZ2.out;simp;omega
     · omega
     · rw [e4.out];omega
     · have:=hf.out;omega
     · rw [← hx2.out,← hp5.out,if_neg hx]
     · have:=hXZ2.out;simp;omega
end Go.Proofs.YtolfghcbbpcciaaGreatDoor.Av
