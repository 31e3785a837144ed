/- Joined texts of the walk, made small by a program. -/
import Derived.Test.YtkkgmgmgcgiffaaGreatDoorUP4
import Derived.Test.YtkkgmgmgcgiffaaGreatDoorRows
import Derived.KernelRfl
import Derived.Test.YtkkgmgmgcgiffaaGreatDoorUD1
import Derived.Test.YtkkgmgmgcgiffaaGreatDoorUP5
import Derived.Test.YtkkgmgmgcgiffaaGreatDoorUD2
set_option linter.unusedSimpArgs false
set_option linter.unusedVariables false
set_option maxRecDepth 100000
namespace Go.Proofs.YtkkgmgmgcgiffaaGreatDoor.Av
open Go
def yL:LSO:=[Af 2]
def yK:LSO:=[Aa 6 0,Aj 7 67 6,Aa 3 7]
def yJ:LSO:=[Aa 8 3,Ar 9 8,AZ 10 9 1,Aa 11 10,.grp none 11 true
 [Ae 12 11 3,BG 13 11 12,og 14 11 true (.bin .leq (tm 13) (iv 32))]
 15 (tm 14),Aa 4 15]
def yI:LSO:=[Ab 5 0]
def yH:LSO:=[Aa 16 5,Aa 17 3,Ar 18 17,Ak 19 16 18,Aa 20 19,.grp none 20 true
 [Ae 21 20 4]
 22 (tm 21)]
def yG:LSO:=[Aa 25 3,Aa 26 5,A9 27 25 26,
 o1 28 (.call 153 [(tm 27),(.av (.str [97,98,99,100,101,102,103,104,105,106,107,108,109,110,111,112,113,114,115,116,117,118,119,120,121,122]))]),Aa 29 28,.grp none 29 false
 [Ag 30 29 5,A5 31 29 30 0,Ag 32 29 31,.grp (some (29,false)) 32 true
 [Ae 33 32 3,Ae 34 32 5,AS 35 32 33 34,og 36 32 true (.call 153 [(tm 35),(.av (.str [48,49,50,51,52,53,54,55,56,57,45]))])]
 37 (tm 36)]
 38 (tm 37),Aa 4 38]
def yF:LSO:=[Aa 23 5,Ah 24 23 1,Aa 5 24]
def yE:LSO:=[Aa 39 4,Aa 2 39]
def rD:aW:=⟨40,(.seq (.sreg yL [])
 (.seq (.sreg yK Ch)
 (.seq (.sreg yJ Ck)
 (.seq (.seq (.sreg yI [])
 (.block 0 (.loop (.seq (.seq (.sreg yH Ck)
 (.cond (tm 22) .skip
 (.exit 0)))
 (.seq (.block 1 (.sreg yG Cl))
 (.sreg yF Ch))))))
 (.seq (.sreg yE Cg)
 .ret))))),[(.tmp 2)]⟩
attribute [push_cast] yL yK yJ yI yH yG yF yE
theorem Lo:bb Tryz.prog (fun _ _=>1) 116=some rD.raw:=by kernel_rfl
def Ik:LSO:=[Af 4]
def Ij:LSO:=[Ab 5 0]
def Ii:LSO:=[Aa 6 5,Aa 7 1,Ar 8 7,Ak 9 6 8]
def Ih:LSO:=[Aa 12 1,Aa 13 5,A9 14 12 13,Aa 15 0,AE 16 14 15]
def Ig:LSO:=[Ax 4]
def If:LSO:=[Aa 10 5,Ah 11 10 1,Aa 5 11]
def Ie:LSO:=[Af 4]
def Hg:aW:=⟨17,(.seq (.sreg Ik [])
 (.seq (.seq (.sreg Ij [])
 (.block 0 (.loop (.seq (.seq (.sreg Ii Ci)
 (.cond (tm 9) .skip
 (.exit 0)))
 (.seq (.block 1 (.seq (.sreg Ih Cj)
 (.cond (tm 16) (.seq (.sreg Ig [])
 .ret)
 .skip)))
 (.sreg If Ch))))))
 (.seq (.sreg Ie [])
 .ret))),[(.tmp 4)]⟩
attribute [push_cast] Ik Ij Ii Ih Ig If Ie
theorem NB:bb Tryz.prog (fun _ _=>1) 153=some Hg.raw:=by kernel_rfl
def Fu:LSO:=[Af 4]
def Ft:LSO:=[Aa 7 0,An 8 7,Ab 9 0]
def Fs:LSO:=[Ak 10 9 8]
def Fq:LSO:=[Aq 11 2 7 9,Ap 12 2 11,Bg 6,Ai 2 6 12]
def Fp:LSO:=[Ac 13 0 6,Ad 14 1 13,Aj 15 67 14,Aa 16 1,Aj 17 67 16,AE 18 15 17]
def Fo:LSO:=[Ax 4]
def Fn:LSO:=[Ah 19 9 1,Aa 9 19]
def Fm:LSO:=[Af 4]
def De:aW:=⟨20,(.seq (.sreg Fu [])
 (.seq (.seq (.sreg Ft [])
 (.block 0 (.loop (.seq (.sreg Fs [])
 (.seq (.cond (tm 10) .skip
 (.exit 0))
 (.seq (.block 1 (.seq (.sreg Fq Ch)
 (.seq (.sreg Fp Ck)
 (.cond (tm 18) (.seq (.sreg Fo [])
 .ret)
 .skip))))
 (.sreg Fn Cg)))))))
 (.seq (.sreg Fm [])
 .ret))),[(.tmp 4)]⟩
attribute [push_cast] Fu Ft Fs Fq Fp Fo Fn Fm
theorem M4:bb Tryz.prog (fun _ _=>1) 171=some De.raw:=by kernel_rfl
def vk:LSO:=[Am 2,Ab 3 0]
def vj:LSO:=[Aa 12 0,Ar 13 12,A0 14 13 4096]
def vi:LSO:=[Am 2,Ab 3 5]
def vh:LSO:=[Am 4]
def ve:LSO:=[Ab 5 0]
def vd:LSO:=[Aa 15 0,Ar 16 15,A0 17 16 0]
def vc:LSO:=[Am 6]
def vb:LSO:=[Aa 18 4,An 19 18,Al 20 19 32]
def u9:LSO:=[Am 2,Ab 3 9]
def u7:LSO:=[Aa 21 6,An 22 21,Al 23 22 8]
def qt:LSO:=[Am 2,Ab 3 9]
def qq:LSO:=[Aa 24 5,Aa 7 24]
def qo:LSO:=[Aa 25 7,Aa 26 0,Ar 27 26,Ak 28 25 27,Aa 29 28,.grp none 29 true
 [Ae 30 29 0,Ae 31 29 7,AS 32 29 30 31,og 33 29 true (.bin .neq (tm 32) (.av (.int .u8 61)))]
 34 (tm 33)]
def qn:LSO:=[Aa 35 7,Ah 36 35 1,Aa 7 36]
def qm:LSO:=[Aa 37 7,Aa 38 0,Ar 39 38,AE 40 37 39,Aa 41 40,.grp none 41 false
 [Ag 42 41 0,Ag 43 41 5,Ag 44 41 7,og 45 41 false (.slS (tm 42) (some (tm 43)) (some (tm 44))),AI 46 41 116 45,AU 47 41 46]
 48 (tm 47)]
def ql:LSO:=[Am 2,Ab 3 4]
def qj:LSO:=[Aa 49 0,Aa 50 5,Aa 51 7,BI 52 49 50 51,o1 53 (.build [(.str []),(.str [])] [(0,(1,(tm 52)))]),Bg 8,Ai 2 8 53]
def qi:LSO:=[Aa 54 6,Ac 55 0 8,Ad 56 1 55,Aw 57 171 54 56]
def qh:LSO:=[Am 2,Ab 3 21]
def qg:LSO:=[Aa 59 0,Aa 60 7,Ah 61 60 1,Aw 62 172 59 61,Aa 58 62,As 63 58,Au 64 58,Bh 65 58,Aa 9 63,Aa 10 64,Aa 11 65]
def qf:LSO:=[Aa 66 11,Ay 67 66]
def qe:LSO:=[Am 2,Ab 3 4]
def qd:LSO:=[Aa 68 9,Ac 69 1 8,Ai 1 69 68]
def qc:LSO:=[Aa 70 6,Ap 71 2 8,BV 72 71,B4 73 70 72,Aa 6 73]
def qb:LSO:=[Aa 74 10,Aa 5 74]
def p9:LSO:=[Aa 75 5,Aa 76 0,Ar 77 76,AE 78 75 77,Aa 79 78,.grp none 79 false
 [Ag 80 79 0,Ag 81 79 5,Bq 82 79 80 81,og 83 79 false (.bin .eql (tm 82) (.av (.int .u8 44)))]
 84 (tm 83)]
def p8:LSO:=[Aa 85 5,Ah 86 85 1,Aa 5 86]
def p7:LSO:=[Aa 87 4,Aa 88 6,BJ 89 88,BK 90 87 89,Aa 4 90]
def p6:LSO:=[Aa 91 5,Aa 92 0,Ar 93 92,AE 94 91 93]
def p5:LSO:=[Aa 95 4,Aa 2 95,Ab 3 0]
def p0:LSO:=[Aa 96 5,Ah 97 96 1,Aa 5 97]
def pZ:LSO:=[Am 2,Ab 3 0]
def mL:aW:=⟨98,(.seq (.sreg vk [])
 (.seq (.seq (.sreg vj Ch)
 (.cond (tm 14) (.seq (.sreg vi [])
 .ret)
 .skip))
 (.seq (.sreg vh [])
 (.seq (.sreg ve [])
 (.seq (.block 0 (.loop (.seq (.seq (.sreg vd Ch)
 (.cond (tm 17) .skip
 (.exit 0)))
 (.block 1 (.seq (.sreg vc [])
 (.seq (.seq (.sreg vb Ch)
 (.cond (tm 20) (.seq (.sreg u9 [])
 .ret)
 .skip))
 (.seq (.block 2 (.loop (.block 3 (.seq (.seq (.sreg u7 Ch)
 (.cond (tm 23) (.seq (.sreg qt [])
 .ret)
 .skip))
 (.seq (.sreg qq Cg)
 (.seq (.block 4 (.loop (.seq (.seq (.sreg qo Ck)
 (.cond (tm 34) .skip
 (.exit 4)))
 (.block 5 (.sreg qn Ch)))))
 (.seq (.seq (.sreg qm Ck)
 (.cond (tm 48) (.seq (.sreg ql [])
 .ret)
 .skip))
 (.seq (.sreg qj Ck)
 (.seq (.seq (.sreg qi Ci)
 (.cond (tm 57) (.seq (.sreg qh [])
 .ret)
 .skip))
 (.seq (.sreg qg [true,true,true,false,false,false,false,false,false,false,false])
 (.seq (.seq (.sreg qf Cg)
 (.cond (tm 67) (.seq (.sreg qe [])
 .ret)
 .skip))
 (.seq (.sreg qd Cq)
 (.seq (.sreg qc Cj)
 (.seq (.sreg qb Cg)
 (.seq (.seq (.sreg p9 Ck)
 (.cond (tm 84) (.exit 2)
 .skip))
 (.sreg p8 Ch))))))))))))))))
 (.seq (.sreg p7 Cj)
 (.seq (.seq (.sreg p6 Ci)
 (.cond (tm 94) (.seq (.sreg p5 Cm)
 .ret)
 .skip))
 (.sreg p0 Ch))))))))))
 (.seq (.sreg pZ [])
 .ret)))))),[(.tmp 2),(.tmp 3)]⟩
attribute [push_cast] vk vj vi vh ve vd vc vb u9 u7 qt qq qo qn qm ql qj qi qh qg qf qe qd qc qb p9 p8 p7 p6 p5 p0 pZ
theorem Ka:bb Tryz.prog (fun _ _=>1) 141=some mL.raw:=by kernel_rfl
def uB:LSO:=[Ao 4,Ab 5 0,Af 6]
def uA:LSO:=[Am 7]
def uz:LSO:=[Ax 8]
def uy:LSO:=[Aa 13 1,Aa 14 0,Ar 15 14,Ak 16 13 15,Aa 17 16,.grp none 17 true
 [Ae 18 17 0,Ae 19 17 1,AS 20 17 18 19,og 21 17 true (.bin .neq (tm 20) (.av (.int .u8 44)))]
 22 (tm 21),Aa 23 22,.grp none 23 true
 [Ae 24 23 0,Ae 25 23 1,AS 26 23 24 25,og 27 23 true (.bin .neq (tm 26) (.av (.int .u8 43)))]
 28 (tm 27)]
def ux:LSO:=[Aa 29 0,Aa 30 1,A9 31 29 30,Aa 9 31]
def uw:LSO:=[Aa 32 1,Ah 33 32 1,Aa 1 33]
def uv:LSO:=[Aa 34 1,Aa 35 0,Ar 36 35,AE 37 34 36,Aa 38 37,.grp none 38 false
 [Ag 39 38 0,Ag 40 38 1,Bq 41 38 39 40,og 42 38 false (.bin .eql (tm 41) (.av (.int .u8 44)))]
 43 (tm 42),Aa 44 43,.grp none 44 false
 [Ag 45 44 0,Ag 46 44 1,Bq 47 44 45 46,og 48 44 false (.bin .eql (tm 47) (.av (.int .u8 43)))]
 49 (tm 48),Aa 10 49]
def uu:LSO:=[Aa 50 9,o1 51 (.bin .eql (tm 50) (.av (.int .u8 92)))]
def ut:LSO:=[Aa 52 1,Aa 53 0,Ar 54 53,Ak 55 52 54,Aa 56 55,.grp none 56 true
 [Ae 57 56 0,Ae 58 56 1,AS 59 56 57 58,og 60 56 true (.call 153 [(tm 59),(.av (.str [34,43,44,59,60,62,92,32,35,61]))])]
 61 (tm 60)]
def ur:LSO:=[Aa 62 7,Aa 63 0,Aa 64 1,A9 65 63 64,AK 66 65,AH 67 62 66,Aa 7 67]
def pu:LSO:=[Aa 68 1,Ah 69 68 1,Aa 1 69]
def pr:LSO:=[Aa 70 1,Ah 71 70 2,Aa 72 0,Ar 73 72,o1 74 (.bin .gtr (tm 71) (tm 73))]
def pq:LSO:=[Ao 4,Ab 5 0,Af 6]
def pp:LSO:=[Aa 76 0,Aa 77 1,Aa 78 1,Ah 79 78 2,BI 80 76 77 79,Aj 81 181 80,Aa 75 81,As 82 75,Au 83 75,Aa 11 82,Aa 12 83]
def po:LSO:=[Aa 84 12,Ay 85 84]
def pn:LSO:=[Ao 4,Ab 5 0,Af 6]
def pm:LSO:=[Aa 86 7,Aa 87 11,Bz 88 87 0,AK 89 88,AH 90 86 89,Aa 7 90]
def pl:LSO:=[Aa 91 1,Ah 92 91 2,Aa 1 92]
def pk:LSO:=[Aa 93 9,B3 94 93,Aa 95 94,.grp none 95 false
 [Ag 96 95 9,og 97 95 false (.call 153 [(tm 96),(.av (.str [34,59,60,62]))])]
 98 (tm 97),Aa 99 98,.grp none 99 false
 [Ag 100 99 8,Ag 101 99 100,.grp (some (99,false)) 101 true
 [Ae 102 101 9,og 103 101 true (.call 153 [(tm 102),(.av (.str [32,35]))])]
 104 (tm 103)]
 105 (tm 104),Aa 106 105,.grp none 106 false
 [Ag 107 106 10,Ag 108 106 107,.grp (some (106,false)) 108 true
 [Ae 109 108 9,Bt 110 108 109]
 111 (tm 110)]
 112 (tm 111)]
def pj:LSO:=[Ao 4,Ab 5 0,Af 6]
def pi:LSO:=[Aa 113 7,Aa 114 9,AK 115 114,AH 116 113 115,Aa 7 116]
def ph:LSO:=[Af 8]
def pc:LSO:=[Aa 117 7,AO 118 117,Aa 119 1,Aa 4 118,Aa 5 119,Ax 6]
def mI:aW:=⟨120,(.seq (.sreg uB [])
 (.seq (.sreg uA [])
 (.seq (.sreg uz [])
 (.seq (.block 0 (.loop (.seq (.seq (.sreg uy Cp)
 (.cond (tm 28) .skip
 (.exit 0)))
 (.block 1 (.seq (.sreg ux Ci)
 (.seq (.sreg uw Ch)
 (.seq (.sreg uv C0)
 (.seq (.seq (.sreg uu Cg)
 (.cond (tm 51) (.seq (.sreg ut Ck)
 (.cond (tm 61) (.seq (.sreg ur Cl)
 (.sreg pu Ch))
 (.seq (.seq (.sreg pr Cj)
 (.cond (tm 74) (.seq (.sreg pq [])
 .ret)
 .skip))
 (.seq (.sreg pp [true,true,false,false,false,false,false,false,false,false,false])
 (.seq (.seq (.sreg po Cg)
 (.cond (tm 85) (.seq (.sreg pn [])
 .ret)
 .skip))
 (.seq (.sreg pm Ck)
 (.sreg pl Ch)))))))
 (.seq (.seq (.sreg pk Cp)
 (.cond (tm 112) (.seq (.sreg pj [])
 .ret)
 .skip))
 (.sreg pi Cj))))
 (.sreg ph [])))))))))
 (.seq (.sreg pc [true,true,true,false,false,false])
 .ret))))),[(.tmp 4),(.tmp 5),(.tmp 6)]⟩
attribute [push_cast] uB uA uz uy ux uw uv uu ut ur pu pr pq pp po pn pm pl pk pj pi ph pc
theorem J7:bb Tryz.prog (fun _ _=>1) 172=some mI.raw:=by kernel_rfl
def mi:LSO:=[Ao 2]
def mh:LSO:=[Am 3]
def mg:LSO:=[Ab 4 0]
def mf:LSO:=[Aa 6 4,Aa 7 0,Ar 8 7,Ak 9 6 8]
def me:LSO:=[Aa 12 0,Aa 13 4,A9 14 12 13,Aa 5 14]
def md:LSO:=[Aa 15 5,B3 16 15]
def mc:LSO:=[Aa 17 3,o1 18 (.app 1 1 1 [(.int .u8 0)] (tm 17) (.av (.str [92,48,48]))),Aa 3 18]
def mb:LSO:=[Aa 19 5,o1 20 (.call 153 [(tm 19),(.av (.str [34,43,44,59,60,62,92]))]),Aa 21 20,.grp none 21 false
 [Ag 22 21 4,AC 23 21 22 0,Ag 24 21 23,.grp (some (21,false)) 24 true
 [Ae 25 24 5,og 26 24 true (.call 153 [(tm 25),(.av (.str [32,35]))])]
 27 (tm 26)]
 28 (tm 27),Aa 29 28,.grp none 29 false
 [Ag 30 29 4,og 31 29 false (.bin .add (tm 30) (iv 1)),Ag 32 29 0,Br 33 29 32,og 34 29 false (.bin .eql (tm 31) (tm 33)),Ag 35 29 34,.grp (some (29,false)) 35 true
 [Ae 36 35 5,Bt 37 35 36]
 38 (tm 37)]
 39 (tm 38)]
def ma:LSO:=[Aa 40 3,o1 41 (.bslice false 1 1 [(.int .u8 0)] [(0,(1,(.av (.int .u8 92))))]),AH 42 40 41,Aa 3 42]
def l9:LSO:=[Aa 43 3,Aa 44 5,AK 45 44,AH 46 43 45,Aa 3 46]
def kX:LSO:=[Aa 10 4,Ah 11 10 1,Aa 4 11]
def kW:LSO:=[Aa 47 3,AO 48 47,Aa 2 48]
def jZ:aW:=⟨49,(.seq (.sreg mi [])
 (.seq (.sreg mh [])
 (.seq (.seq (.sreg mg [])
 (.block 0 (.loop (.seq (.seq (.sreg mf Ci)
 (.cond (tm 9) .skip
 (.exit 0)))
 (.seq (.block 1 (.seq (.sreg me Ci)
 (.seq (.seq (.sreg md Cg)
 (.cond (tm 16) (.seq (.sreg mc Ch)
 (.exit 1))
 .skip))
 (.seq (.seq (.sreg mb Ck)
 (.cond (tm 39) (.sreg ma Ci)
 .skip))
 (.sreg l9 Cj)))))
 (.sreg kX Ch))))))
 (.seq (.sreg kW Ch)
 .ret)))),[(.tmp 2)]⟩
attribute [push_cast] mi mh mg mf me md mc mb ma l9 kX kW
theorem Hf:bb Tryz.prog (fun _ _=>1) 200=some jZ.raw:=by kernel_rfl
def yD:LSO:=[Ao 2]
def yC:LSO:=[Ao 3]
def yB:LSO:=[Aa 8 0,An 9 8,Ab 10 0]
def yA:LSO:=[Ak 11 10 9]
def yz:LSO:=[Aa 12 10,Aq 13 1 8 10,Ad 14 1 13,Aa 4 12,Aa 5 14]
def yy:LSO:=[Aa 15 4,A0 16 15 0]
def yx:LSO:=[Aa 17 3,o1 18 (.bin .add (tm 17) (.av (.str [44]))),Aa 3 18]
def yw:LSO:=[Aa 19 5,An 20 19,Ab 21 0]
def yv:LSO:=[Ak 22 21 20]
def yu:LSO:=[Aa 23 21,Aq 24 2 19 21,Ap 25 2 24,Bg 7,Aa 6 23,Ai 2 7 25]
def uH:LSO:=[Aa 26 6,A0 27 26 0]
def uG:LSO:=[Aa 28 3,o1 29 (.bin .add (tm 28) (.av (.str [43]))),Aa 3 29]
def uF:LSO:=[Aa 30 3,Ac 31 0 7,Ad 32 1 31,AP 33 30 32,o1 34 (.bin .add (tm 33) (.av (.str [61]))),Ac 35 1 7,Ad 36 1 35,Aj 37 200 36,AP 38 34 37,Aa 3 38]
def uE:LSO:=[Ah 39 21 1,Aa 21 39]
def uD:LSO:=[Ah 40 10 1,Aa 10 40]
def uC:LSO:=[Aa 41 3,Aa 2 41]
def rC:aW:=⟨42,(.seq (.sreg yD [])
 (.seq (.sreg yC [])
 (.seq (.seq (.sreg yB [])
 (.block 0 (.loop (.seq (.sreg yA [])
 (.seq (.cond (tm 11) .skip
 (.exit 0))
 (.seq (.block 1 (.seq (.sreg yz Co)
 (.seq (.seq (.sreg yy Cg)
 (.cond (tm 16) (.sreg yx Ch)
 .skip))
 (.seq (.sreg yw [])
 (.block 2 (.loop (.seq (.sreg yv [])
 (.seq (.cond (tm 22) .skip
 (.exit 2))
 (.seq (.block 3 (.seq (.sreg yu Co)
 (.seq (.seq (.sreg uH Cg)
 (.cond (tm 27) (.sreg uG Ch)
 .skip))
 (.sdreg uF [.pure,.pure,(.read 0 0),.pure,.pure,.pure,(.read 0 0),(.read 0 0)] Cx))))
 (.sreg uE Cg))))))))))
 (.sreg uD Cg)))))))
 (.seq (.sreg uC Cg)
 .ret)))),[(.tmp 2)]⟩
attribute [push_cast] yD yC yB yA yz yy yx yw yv yu uH uG uF uE uD uC
theorem Ln:bb Tryz.prog (fun _ _=>1) 174=some rC.raw:=by kernel_rfl
def u6:LSO:=[Ao 2,Ab 3 0]
def u0:LSO:=[Ab 4 0]
def uZ:LSO:=[Aa 9 0,An 10 9,Ab 11 0]
def uY:LSO:=[Ak 12 11 10]
def uX:LSO:=[Aa 13 11,Aq 14 1 9 11,Ad 15 1 14,Aa 5 13,Aa 6 15]
def uW:LSO:=[Aa 16 5,Al 17 16 32]
def uV:LSO:=[Ao 2,Ab 3 9]
def uU:LSO:=[Aa 18 6,An 19 18,Al 20 19 0]
def uT:LSO:=[Ao 2,Ab 3 2]
def uS:LSO:=[Aa 21 6,An 22 21,Ab 23 0]
def pY:LSO:=[Ak 24 23 22]
def pX:LSO:=[Aa 25 23,Aq 26 2 21 23,Ap 27 2 26,Bg 8,Aa 7 25,Ai 2 8 27]
def pW:LSO:=[Aa 28 7,Al 29 28 8]
def pV:LSO:=[Ao 2,Ab 3 9]
def pU:LSO:=[Ac 30 0 8,Ad 31 1 30,Aj 32 116 31,Ay 33 32]
def pT:LSO:=[Ao 2,Ab 3 20]
def pS:LSO:=[Aa 34 6,Aa 35 7,BX 36 34 35,Ac 37 0 8,Ad 38 1 37,Aw 39 171 36 38]
def pR:LSO:=[Ao 2,Ab 3 21]
def pQ:LSO:=[Aa 40 4,Ac 41 1 8,Ad 42 1 41,Ar 43 42,o1 44 (.minmax false [(tm 43),(iv 5000)]),AP 45 40 44,Aa 4 45]
def pP:LSO:=[Ah 46 23 1,Aa 23 46]
def pO:LSO:=[Ah 47 11 1,Aa 11 47]
def pN:LSO:=[Aa 48 4,A0 49 48 4096,Aa 50 49,.grp none 50 false
 [Ag 51 50 0,AI 52 50 174 51,Br 53 50 52,A5 54 50 53 4096]
 55 (tm 54)]
def pM:LSO:=[Ao 2,Ab 3 5]
def pL:LSO:=[Aa 56 0,Aj 57 174 56,Aa 2 57,Ab 3 0]
def mK:aW:=⟨58,(.seq (.sreg u6 [])
 (.seq (.sreg u0 [])
 (.seq (.seq (.sreg uZ [])
 (.block 0 (.loop (.seq (.sreg uY [])
 (.seq (.cond (tm 12) .skip
 (.exit 0))
 (.seq (.block 1 (.seq (.sreg uX Co)
 (.seq (.seq (.sreg uW Cg)
 (.cond (tm 17) (.seq (.sreg uV [])
 .ret)
 .skip))
 (.seq (.seq (.sreg uU Ch)
 (.cond (tm 20) (.seq (.sreg uT [])
 .ret)
 .skip))
 (.seq (.sreg uS [])
 (.block 2 (.loop (.seq (.sreg pY [])
 (.seq (.cond (tm 24) .skip
 (.exit 2))
 (.seq (.block 3 (.seq (.sreg pX Co)
 (.seq (.seq (.sreg pW Cg)
 (.cond (tm 29) (.seq (.sreg pV [])
 .ret)
 .skip))
 (.seq (.seq (.sreg pU Ci)
 (.cond (tm 33) (.seq (.sreg pT [])
 .ret)
 .skip))
 (.seq (.seq (.sdreg pS [.pure,.pure,(.read 0 0),.pure,(.read 0 0)] Ck)
 (.cond (tm 39) (.seq (.sreg pR [])
 .ret)
 .skip))
 (.sreg pQ Cl))))))
 (.sreg pP Cg)))))))))))
 (.sreg pO Cg)))))))
 (.seq (.seq (.sreg pN Ci)
 (.cond (tm 55) (.seq (.sreg pM [])
 .ret)
 .skip))
 (.seq (.sreg pL Cw)
 .ret))))),[(.tmp 2),(.tmp 3)]⟩
attribute [push_cast] u6 u0 uZ uY uX uW uV uU uT uS pY pX pW pV pU pT pS pR pQ pP pO pN pM pL
theorem J9:bb Tryz.prog (fun _ _=>1) 173=some mK.raw:=by kernel_rfl
def uR:LSO:=[Am 2]
def uQ:LSO:=[Am 3]
def uP:LSO:=[Aa 12 0,An 13 12,Ab 14 0]
def uO:LSO:=[Ak 15 14 13]
def uN:LSO:=[Aq 16 1 12 14,Ad 17 1 16,Aa 5 17]
def uM:LSO:=[Am 6]
def uL:LSO:=[Aa 18 5,An 19 18,Ab 20 0]
def uK:LSO:=[Ak 21 20 19]
def uJ:LSO:=[Aq 22 2 18 20,Ap 23 2 22,Bg 8,Ai 2 8 23]
def uI:List (an×Kd) :=
 [AL 24 0 8,AM 25 1 24 0 1,BN 26 67 25 0 1,AL 27 1 8,AM 28 1 27 0 1,BN 29 97 28 0 1,od 30 (.build [(.str []),(.str [])] [(0,(1,(tm 26))),(1,(1,(tm 29)))]) .pure,
 od 9 (.alloc [(.str []),(.str [])]) .eff]
def pw:List an :=
 [⟨none,(.store 2 (tm 9) (tm 30)),none⟩]
def pK:LSO:=[Aa 31 6,An 32 31,Aa 10 32]
def pJ:LSO:=[Aa 33 10,A0 34 33 0,Aa 35 34,.grp none 35 true
 [Ae 36 35 6,Ae 37 35 10,BL 38 35 37 1,Bj 39 35 2 36 38,A7 40 35 0 39,A4 41 35 1 40,og 42 35 true (.bin .add (tm 41) (.av (.str [61]))),Ae 43 35 6,Ae 44 35 10,BL 45 35 44 1,
 Bj 46 35 2 43 45,A7 47 35 1 46,A4 48 35 1 47,AJ 49 35 200 48,og 50 35 true (.bin .add (tm 42) (tm 49)),A7 51 35 0 9,A4 52 35 1 51,
 og 53 35 true (.bin .add (tm 52) (.av (.str [61]))),A7 54 35 1 9,A4 55 35 1 54,AJ 56 35 200 55,og 57 35 true (.bin .add (tm 53) (tm 56)),
 og 58 35 true (.bin .gtr (tm 50) (tm 57))]
 59 (tm 58)]
def pI:LSO:=[Aa 60 10,Bk 61 60 1,Aa 10 61]
def pH:LSO:=[Am 11]
def pG:LSO:=[Aa 62 11,Aa 63 6,Aa 64 10,BX 65 63 64,B4 66 62 65,Aa 11 66]
def pF:LSO:=[Aa 67 11,Ap 68 2 9,BV 69 68,B4 70 67 69,Aa 11 70]
def pE:LSO:=[Aa 71 11,Aa 72 6,Aa 73 10,o1 74 (.slV 2 (tm 72) (some (tm 73)) none none),B4 75 71 74,Aa 11 75]
def pD:LSO:=[Aa 76 11,Aa 6 76]
def pB:LSO:=[Ah 77 20 1,Aa 20 77]
def pA:LSO:=[Aa 78 3,Aa 79 6,BJ 80 79,BK 81 78 80,Aa 3 81]
def pz:LSO:=[Ah 82 14 1,Aa 14 82]
def py:LSO:=[Aa 83 3,Aa 2 83]
def mJ:aW:=⟨84,(.seq (.sreg uR [])
 (.seq (.sreg uQ [])
 (.seq (.seq (.sreg uP [])
 (.block 0 (.loop (.seq (.sreg uO [])
 (.seq (.cond (tm 15) .skip
 (.exit 0))
 (.seq (.block 1 (.seq (.sreg uN Ch)
 (.seq (.sreg uM [])
 (.seq (.seq (.sreg uL [])
 (.block 2 (.loop (.seq (.sreg uK [])
 (.seq (.cond (tm 21) .skip
 (.exit 2))
 (.seq (.block 3 (.seq (.sreg uJ Ch)
 (.seq (.dregM uI pw Cp)
 (.seq (.sreg pK Ch)
 (.seq (.block 4 (.loop (.seq (.seq (.sdreg pJ [.pure,.pure,.pure,.pure,.pure,.pure,(.read 0 0),.pure,(.read 0 0),.pure,.pure,.pure,.pure,(.read 0 0),.pure,(.read 0 0),(.read 0 0),.pure,.pure,(.read 0 0),.pure,.pure,(.read 0 0),(.read 0 0),.pure] Ci)
 (.cond (tm 59) .skip
 (.exit 4)))
 (.block 5 (.sreg pI Ch)))))
 (.seq (.sreg pH [])
 (.seq (.sreg pG Ck)
 (.seq (.sreg pF Cj)
 (.seq (.sreg pE Ck)
 (.sreg pD Cg))))))))))
 (.sreg pB Cg)))))))
 (.sreg pA Cj)))))
 (.sreg pz Cg)))))))
 (.seq (.sreg py Cg)
 .ret)))),[(.tmp 2)]⟩
attribute [push_cast] uR uQ uP uO uN uM uL uK uJ uI pw pK pJ pI pH pG pF pE pD pB pA pz py
theorem J8:bb Tryz.prog (fun _ _=>1) 175=some mJ.raw:=by kernel_rfl
def yQ:LSO:=[Ao 2,Ab 3 0]
def yP:LSO:=[Aa 7 0,Aj 8 173 7,Aa 6 8,As 9 6,Au 10 6,Aa 4 9,Aa 5 10]
def yO:LSO:=[Aa 11 5,AF 12 11 0]
def yN:LSO:=[Aa 13 5,Ao 2,Aa 3 13]
def yM:LSO:=[Aa 14 0,Aj 15 175 14,Aj 16 174 15,Aa 2 16,Ab 3 0]
def rE:aW:=⟨17,(.seq (.sreg yQ [])
 (.seq (.sreg yP Cl)
 (.seq (.seq (.sreg yO Cg)
 (.cond (tm 12) (.seq (.sreg yN Cm)
 .ret)
 .skip))
 (.seq (.sreg yM Co)
 .ret)))),[(.tmp 2),(.tmp 3)]⟩
attribute [push_cast] yQ yP yO yN yM
theorem Lp:bb Tryz.prog (fun _ _=>1) 142=some rE.raw:=by kernel_rfl
def Fz:LSO:=[Ao 2,Ab 3 0]
def Fy:LSO:=[Aa 7 0,Aj 8 141 7,Aa 6 8,As 9 6,Au 10 6,Aa 4 9,Aa 5 10]
def Fx:LSO:=[Aa 11 5,AF 12 11 0]
def Fw:LSO:=[Aa 13 5,Ao 2,Aa 3 13]
def Fv:LSO:=[Aa 14 4,Aj 15 142 14,As 16 15,Au 17 15,Aa 2 16,Aa 3 17]
def Df:aW:=⟨18,(.seq (.sreg Fz [])
 (.seq (.sreg Fy Cz)
 (.seq (.seq (.sreg Fx Cg)
 (.cond (tm 12) (.seq (.sreg Fw Cm)
 .ret)
 .skip))
 (.seq (.sreg Fv C6)
 .ret)))),[(.tmp 2),(.tmp 3)]⟩
attribute [push_cast] Fz Fy Fx Fw Fv
theorem M5:bb Tryz.prog (fun _ _=>1) 99=some Df.raw:=by kernel_rfl
variable {L:List Blk} {K:AV→List Blk→Prop}
set_option maxHeartbeats 8000000
set_option maxRecDepth 100000
theorem jD {l:List UInt8} {x:UInt8} (hn:l.length≤1100000) (h:K (.bool (l.contains x)) L) :
   ad Tryz.prog 153 [.int .u8 x.toNat,.str l] L K:=by
 replace h:=hid h
 refine ae NB (by simp [Hg]) ?_
 simp only [Hg,ar]
 refine wk ?_
 refine am (fun n T' L'=>∃ (i:Nat),n=l.length - i∧i≤l.length∧Hid (∀ j,j<i→l.getD j 0≠x)∧T'=[(5,.int .i64 (i:Int)),(0,.int .u8 x.toNat),(1,.str l)]∧L=L') (CutS (b:=Nat.le_refl _)) ⟨0,rfl,Nat.zero_le _,hid (by simp),rfl,rfl⟩ ?_
 rintro _ _ _ ⟨i,rfl,hi,hno,rfl,rfl⟩
 by_cases hlt:i<l.length
 · have h1:(i:Int)<(l.length:Int):=by omega
   have h2:IntKind.i64.wrap ((i:Int)+1)=(i:Int)+1:=ac (by omega) (by omega)
   obtain ⟨p,hp⟩:∃ p,l.getD i 0=p:=⟨_,rfl⟩
   by_cases hpq:p=x
   · have hc:l.contains x=true:=by
       rw [List.contains_iff_mem,← hpq,← hp,List.getD_eq_getElem?_getD,List.getElem?_eq_getElem hlt]
       exact List.getElem_mem _
     have h':=h.out
     rw [hc] at h'
     replace h':=hid h'
     clear hc
     subst hpq
     refine wk ?_
     exact aa h'.out
   · have k1:¬ (p.toNat:Int)=(x.toNat:Int):=fun e=>hpq ((be p x).1 e)
     have hp':=hid hp
     refine wk ?_
     refine ak _ _ _ (by omega) (CutS (b:=Nat.le_refl _)) ⟨i+1,rfl,hlt,hid fun j hj=>?_,rfl,rfl⟩
     rcases Nat.lt_or_ge j i with e|e
     · exact hno.out j e
     · have:j=i:=by omega
       subst this
       rw [hp];exact hpq
 · have hke:i=l.length:=by omega
   subst hke
   have h1:¬ (l.length:Int)<(l.length:Int):=by omega
   have hc:l.contains x=false:=by
     rw [← Bool.not_eq_true,List.contains_iff_mem]
     intro hm
     obtain ⟨j,hj,e⟩:=List.mem_iff_getElem.1 hm
     exact hno.out j hj (by simp [hj,e])
   have h':=h.out
   rw [hc] at h'
   replace h':=hid h'
   clear hc
   refine wk ?_
   exact aa h'.out
abbrev jM:List UInt8:=[97,98,99,100,101,102,103,104,105,106,107,108,109,110,111,112,113,114,115,116,117,118,119,120,121,122]
abbrev Ob:List UInt8:=[48,49,50,51,52,53,54,55,56,57,45]
theorem V7:∀ n:_root_.Fin 256,jM.contains (jK (UInt8.ofNat n.val))=mt (n.val:Int)∧(jM.contains (jK (UInt8.ofNat n.val)) || Ob.contains (jK (UInt8.ofNat n.val)))=JK (n.val:Int):=by decide +kernel
theorem OG (c:UInt8):jM.contains (jK c)=mt (c.toNat:Int)∧(jM.contains (jK c) || Ob.contains (jK c))=JK (c.toNat:Int):=by
 have:=V7 ⟨c.toNat,c.toNat_lt⟩
 simpa using this
def okC (j:Nat) (c:UInt8):Bool:=jM.contains (jK c) || (decide (0<j) && Ob.contains (jK c))
theorem Tx (s:List UInt8):eS s=true↔(1≤s.length∧s.length≤32)∧∀ j,j<s.length→okC j (s.getD j 0)=true:=by
 simp only [eS,Bool.and_eq_true,decide_eq_true_eq,List.all_eq_true]
 constructor
 · rintro ⟨⟨⟨h1,h2⟩,h3⟩,h4⟩
   refine ⟨⟨h1,h2⟩,fun j hj=>?_⟩
   obtain ⟨e1,e2⟩:=OG (s.getD j 0)
   by_cases h0:j=0
   · subst h0
     rw [okC,e1,h3];rfl
   · have hm:s.getD j 0∈s:=by simp [hj]
     have:=h4 _ hm
     rw [← e2] at this
     rw [okC,show decide (0<j)=true by simp;omega,Bool.true_and]
     exact this
 · rintro ⟨⟨h1,h2⟩,h3⟩
   refine ⟨⟨⟨h1,h2⟩,?_⟩,fun c hc=>?_⟩
   · have:=h3 0 (by omega)
     rw [okC] at this
     simp only [Nat.lt_irrefl,decide_false,Bool.false_and,Bool.or_false] at this
     rw [← (OG _).1];exact this
   · obtain ⟨j,hj,rfl⟩:=List.mem_iff_getElem.1 hc
     have:=h3 j hj
     have e:s.getD j 0=s[j]:=by simp [hj]
     rw [e,okC] at this
     rw [← (OG _).2]
     cases hl:jM.contains (jK s[j]) with
     | true=>rfl
     | false =>
       rw [hl,Bool.false_or,Bool.and_eq_true] at this
       rw [this.2];rfl
theorem HB {s:List UInt8} (hs:(s.length:Int)≤140737488351232) (h:K (.bool (eS s)) L):ad Tryz.prog 116 [.str s] L K:=by
 replace h:=hid h
 obtain ⟨t,ht⟩:∃ t,ah s=t:=⟨_,rfl⟩
 have htl:t.length=s.length:=by rw [← ht];simp [ah]
 have hg:∀ j,j<s.length→t.getD j 0=jK (s.getD j 0):=fun j hj=>by rw [← ht];simp [ah,hj]
 replace htl:=hid htl
 replace hg:=hid hg
 have hit:=hid (Tx s)
 refine ae Lo (by simp [rD]) ?_
 simp only [rD,ar]
 refine wk ?_
 refine bd hs ?_
 rw [ht]
 refine sk ?_
 refine wk ?_
 refine am (fun n T' L'=>∃ (i:Nat) (b:Bool),n=s.length+1 - i∧i≤s.length∧Hid (b=true↔(1≤s.length∧s.length≤32)∧∀ j,j<i→okC j (s.getD j 0)=true)∧T'=[(5,.int .i64 (i:Int)),(4,.bool b),(3,.str t)]∧L=L') (CutS (b:=Nat.le_refl _)) ⟨0,_,rfl,Nat.zero_le _,hid (by have:=htl.out;simp;omega),rfl,rfl⟩ ?_
 rintro _ _ _ ⟨i,b,rfl,hi,hb,rfl,rfl⟩
 have htl':=htl.out
 by_cases hlt:i<s.length
 · have g1:(i:Int)<(t.length:Int):=by omega
   have g2:IntKind.i64.wrap ((i:Int)+1)=(i:Int)+1:=ac (by omega) (by omega)
   have g3:=hg.out i hlt
   obtain ⟨c,hc⟩:∃ c,s.getD i 0=c:=⟨_,rfl⟩
   rw [hc] at g3
   replace hc:=hid hc
   clear htl'
   cases b with
   | false =>
     have hf:eS s=false:=by
       rw [← Bool.not_eq_true,hit.out]
       intro ⟨q1,q2⟩
       have:=hb.out.2 ⟨q1,fun j hj=>q2 j (by omega)⟩
       cases this
     have h':=h.out
     rw [hf] at h'
     replace h':=hid h'
     clear hf
     refine wk ?_
     exact aa h'.out
   | true =>
     have hnext:okC i c=true↔((1≤s.length∧s.length≤32)∧∀ j,j<i+1→okC j (s.getD j 0)=true):=by
       have hb1:=hb.out.1 rfl
       constructor
       · intro e
         refine ⟨hb1.1,fun j hj=>?_⟩
         rcases Nat.lt_or_ge j i with q|q
         · exact hb1.2 j q
         · have:j=i:=by omega
           subst this;rw [hc.out];exact e
       · rintro ⟨_,e⟩
         have:=e i (by omega)
         rwa [hc.out] at this
     replace hnext:=hid hnext
     have hok:okC i c=(jM.contains (jK c) || (decide (0<i) && Ob.contains (jK c))):=rfl
     replace hok:=hid hok
     refine wk ?_
     refine jD (by simp) ?_
     cases hl:jM.contains (jK c) with
     | true =>
       have hk:=hid (show okC i c=true by rw [hok.out,hl];rfl)
       refine sk ?_
       refine wk ?_
       exact ak _ _ _ (by omega) (CutL (b:=Nat.le_refl _)) ⟨i+1,true,rfl,hlt,hid (by rw [← hnext.out,hk.out]),rfl,rfl⟩
     | false =>
       by_cases h0:i=0
       · have hk:=hid (show okC i c=false by rw [hok.out,hl,h0];rfl)
         have k0:¬ (0:Int)<(i:Int):=by omega
         clear h0
         refine sk ?_
         refine wk ?_
         exact ak _ _ _ (by omega) (CutL (b:=Nat.le_refl _)) ⟨i+1,false,rfl,hlt,hid (by rw [← hnext.out,hk.out]),rfl,rfl⟩
       · have hk:=hid (show okC i c=Ob.contains (jK c) by rw [hok.out,hl,show decide (0<i)=true by simp;omega];simp)
         have k0:(0:Int)<(i:Int):=by omega
         clear h0
         refine sk ?_
         repeat' first
           | refine a8 ?_
           | (first|refine aP (by kernel_rfl) ?_|refine aB (by kernel_rfl) ?_|refine aC ?_|refine bj ?_|refine aX (fun _=>?_)|refine ay ?_|refine aS ?_)
             refine sm ?_
           | (first|refine aL (by kernel_rfl) ?_|refine aQ ?_|refine aR ?_|refine ba (ax ?_))
             refine sl ?_
           | exact aY
           | first|apply aZ|apply aM|apply a6|apply aN|apply a7|apply aO
           | refine aF ?_
           | first|refine aD rfl ?_|refine aE rfl ?_|refine ap rfl ?_ ?_|refine aH rfl (fun _=>?_) (fun _=>?_)|refine aG rfl (fun _=>?_) (fun _=>?_)
           | ((first|refine ao (fun _=>?_) (fun _=>?_)|refine aw (fun _=>?_) (fun _=>?_))<;>try refine sm ?_)
           | refine And.intro trivial ?_
           | refine And.intro (by omega) ?_
           | refine aI rfl (fun _=>?_) (fun _=>?_)
           | refine And.intro ?_ ?_
         refine aq (jD (by simp) ⟨rfl,rfl⟩) ?_
         simp only [Kon,push_cast,reduceIte,Nat.reduceEqDiff,Nat.reduceAdd,Nat.reduceMul,Nat.reduceSub,Nat.reduceLT,Nat.reduceLeDiff,Int.reduceLT,Int.reduceLE,Int.reduceAdd,Int.reduceSub,Int.reduceNeg,Int.reduceToNat,Int.reduceEq,reduceCtorEq, *]
         repeat' first
           | refine a8 ?_
           | (first|refine aP (by kernel_rfl) ?_|refine aB (by kernel_rfl) ?_|refine aC ?_|refine bj ?_|refine aX (fun _=>?_)|refine ay ?_|refine aS ?_)
             refine sm ?_
           | (first|refine aL (by kernel_rfl) ?_|refine aQ ?_|refine aR ?_|refine ba (ax ?_))
             refine sl ?_
           | exact aY
           | first|apply aZ|apply aM|apply a6|apply aN|apply a7|apply aO
           | refine aF ?_
           | first|refine aD rfl ?_|refine aE rfl ?_|refine ap rfl ?_ ?_|refine aH rfl (fun _=>?_) (fun _=>?_)|refine aG rfl (fun _=>?_) (fun _=>?_)
           | ((first|refine ao (fun _=>?_) (fun _=>?_)|refine aw (fun _=>?_) (fun _=>?_))<;>try refine sm ?_)
           | refine And.intro trivial ?_
           | refine And.intro (by omega) ?_
           | refine aI rfl (fun _=>?_) (fun _=>?_)
           | refine And.intro ?_ ?_
         exact ak _ _ _ (by omega) (CutL (b:=Nat.le_refl _)) ⟨i+1,Ob.contains (jK c),rfl,hlt,hid (by rw [← hnext.out,hk.out]),rfl,rfl⟩
 · have hke:i=s.length:=by omega
   subst hke
   have g1:¬ (s.length:Int)<(t.length:Int):=by omega
   have hfin:b=eS s:=by
     have e:=hb.out.trans hit.out.symm
     cases b<;>cases hs':eS s<;>simp_all
   have h':=h.out
   rw [← hfin] at h'
   replace h':=hid h'
   clear hfin
   clear htl'
   refine wk ?_
   exact aa h'.out
theorem HA {s:List UInt8} (hs:(s.length:Int)≤100000) (h:K (.bool (eS s)) L):ad Tryz.prog 116 [.str s] L K:=HB (by omega) h
theorem TK {r:List Ava} {typ:List UInt8} {cap:Option Nat} (hn:r.length≤100000) (h1:∀ a∈r,(a.1.length:Int)≤100000) (h2:(typ.length:Int)≤100000) (h:K (.bool (kA r typ)) L) :
   ad Tryz.prog 171 [QC r cap,.str typ] L K:=by
 replace h:=hid h
 replace h1:=hid h1
 refine ae M4 (by simp [De]) ?_
 simp only [De,ar]
 refine wk ?_
 refine am (fun n T' L'=>∃ (k:Nat) (Z:List Blk),n=r.length - k∧k≤r.length∧Hid (kA (r.take k) typ=false)∧T'=[(9,.int .i64 (k:Int)),(8,.int .i64 r.length),(7,QC r cap),(1,.str typ)]∧L'=L++Z) (CutS (b:=by simp)) ⟨0,[],rfl,Nat.zero_le _,hid rfl,rfl,by simp⟩ ?_
 rintro _ _ _ ⟨k,Z,rfl,hk,hf,rfl,rfl⟩
 by_cases hlt:k<r.length
 · have g1:(k:Int)<(r.length:Int):=by omega
   have g2:IntKind.i64.wrap ((k:Int)+1)=(k:Int)+1:=ac (by omega) (by omega)
   have e1:=dT hlt
   have e2:k * 2+2≤(aU r).length:=by rw [cQ];omega
   obtain ⟨⟨ty,va⟩,ha⟩:∃ a,r.getD k ([],[])=a:=⟨_,rfl⟩
   have ham:(ty,va)∈r:=by rw [← ha];simp [hlt]
   have htk:r.take (k+1)=r.take k++[(ty,va)]:=by rw [List.take_succ_eq_append_getElem hlt,← ha];simp [hlt]
   rw [ha] at e1
   simp only [lB] at e1
   have hs:kA (r.take (k+1)) typ=decide (ah ty=ah typ):=by
     have:=hf.out
     simp only [kA] at this ⊢
     rw [htk,List.any_append,this];simp
   have ha1:=h1.out _ ham
   simp only at ha1
   have hall:ah ty=ah typ→kA r typ=true:=fun e=>List.any_eq_true.2 ⟨_,ham,by simpa using e⟩
   replace hall:=hid hall
   replace hs:=hid hs
   clear ha ham htk
   by_cases hq:ah ty=ah typ
   · have h':=h.out
     rw [hall.out hq] at h'
     replace h':=hid h'
     have kk1:=@hid _ (fun L K=>jr ha1 (L:=L) (K:=K))
     have kk2:=@hid _ (fun L K=>jr h2 (L:=L) (K:=K))
     refine wk ?_
     exact ab rfl h'.out
   · have kk1:=@hid _ (fun L K=>jr ha1 (L:=L) (K:=K))
     have kk2:=@hid _ (fun L K=>jr h2 (L:=L) (K:=K))
     refine wk ?_
     exact ak _ _ _ (by omega) (CutL (b:=by simp)) ⟨k+1,_,rfl,hlt,hid (by rw [hs.out];simpa using hq),rfl,rfl⟩
 · have hke:k=r.length:=by omega
   subst hke
   have g1:¬ (r.length:Int)<(r.length:Int):=by omega
   have hn':=hf.out
   rw [List.take_length] at hn'
   have h':=h.out
   rw [hn'] at h'
   replace h':=hid h'
   clear hn'
   refine wk ?_
   exact ab rfl h'.out
theorem jh {s:List UInt8} (hs:s.length≤100000) (h:K (.str (iA s)) L):ad Tryz.prog 200 [.str s] L K:=by
 replace h:=hid h
 refine ae Hf (by simp [jZ]) ?_
 simp only [jZ,ar]
 refine wk ?_
 refine ch (l:=[]) (n:=0) 3 1 rfl (Nat.zero_mul 1).symm ?_
 refine am (fun n T' L'=>∃ (i m:Nat) (b:List UInt8),n=s.length - i∧i≤s.length∧m≤3 * i∧Hid (m=b.length∧b++wrL s.length i (s.drop i)=iA s)∧T'=[(4,.int .i64 (i:Int)),(3,.gsl (u8s b) m L.length 1),(0,.str s)]∧L'=L++[.spare m 1]) (CutS (b:=by simp)) ⟨0,0,[],rfl,Nat.zero_le _,by omega,hid ⟨rfl,rfl⟩,rfl,rfl⟩ ?_
 rintro _ _ _ ⟨i,m,b,rfl,hi,hm,hb,rfl,rfl⟩
 by_cases hlt:i<s.length
 · have g1:(i:Int)<(s.length:Int):=by omega
   have g2:IntKind.i64.wrap ((i:Int)+1)=(i:Int)+1:=ac (by omega) (by omega)
   obtain ⟨c,hc⟩:∃ c,s.getD i 0=c:=⟨_,rfl⟩
   have hdr:=jf hlt
   rw [hc] at hdr
   have hb2:=hb.out.2
   rw [hdr] at hb2
   simp only [wrL] at hb2
   clear hdr
   replace hb2:=hid hb2
   obtain ⟨p1,hp1⟩:∃ p,([34,43,44,59,60,62,92]:List UInt8).contains c=p:=⟨_,rfl⟩
   obtain ⟨p2,hp2⟩:∃ p,([32,35]:List UInt8).contains c=p:=⟨_,rfl⟩
   have hq1:p1=true↔c∈([34,43,44,59,60,62,92]:List UInt8):=by rw [← hp1,List.contains_iff_mem]
   have hq2:p2=true↔(c=32∨c=35):=by rw [← hp2,List.contains_iff_mem];simp
   replace hq1:=hid hq1
   replace hq2:=hid hq2
   repeat' first
     | refine a8 ?_
     | (first|refine aP (by kernel_rfl) ?_|refine aB (by kernel_rfl) ?_|refine aC ?_|refine bj ?_|refine aX (fun _=>?_)|refine ay ?_|refine aS ?_|refine jD (by simp) ?_|refine aK (jD (by simp) ⟨rfl,rfl⟩) (jD (by simp) ⟨rfl,rfl⟩) ?_|refine aq (jD (by simp) ⟨rfl,rfl⟩) ?_)
       refine sm ?_
     | (first|refine aL (by kernel_rfl) ?_|refine aQ ?_|refine aR ?_|refine ba (ax ?_))
       refine sl ?_
     | exact aY
     | first|apply aZ|apply aM|apply a6|apply aN|apply a7|apply aO
     | refine aF ?_
     | first|refine aD rfl ?_|refine aE rfl ?_|refine ap rfl ?_ ?_|refine aH rfl (fun _=>?_) (fun _=>?_)|refine aG rfl (fun _=>?_) (fun _=>?_)
     | ((first|refine ao (fun _=>?_) (fun _=>?_)|refine aw (fun _=>?_) (fun _=>?_))<;>try refine sm ?_)
     | refine And.intro trivial ?_
     | refine And.intro (by omega) ?_
     | refine aI rfl (fun _=>?_) (fun _=>?_)
     | refine And.intro ?_ ?_
   · rfl
   · omega
   · rename_i h0
     have hc0:=(be c 0).1 h0
     rw [show u8s b++AV.frzL (u8s [92,48,48])=u8s (b++[92,48,48]) by simp [u8s,AV.frzL,AV.frz]]
     refine ak _ _ _ (by omega) (CutL (b:=by simp)) ⟨i+1,m+3,b++[92,48,48],rfl,hlt,by omega,hid ⟨by simp [hb.out.1],?_⟩,rfl,rfl⟩
     rw [← hb2.out,wrB,if_pos hc0,List.append_assoc]
   · rename_i h0 h1
     have hc0:¬ c=0:=fun e=>h0 ((be c 0).2 e)
     have hq:(i=0∧(c=32∨c=35))∨(i+1=s.length∧c=32)∨c∈[34,43,44,59,60,62,92]:=by
       simp only [Bool.or_eq_true,Bool.and_eq_true,decide_eq_true_eq] at h1
       rcases h1 with (e|⟨e1,e2⟩)|⟨e1,e2⟩
       · exact .inr (.inr (hq1.out.1 e))
       · exact .inl ⟨by omega,hq2.out.1 e2⟩
       · exact .inr (.inl ⟨by omega,(be c 32).1 e2⟩)
     rw [show u8s b++[AV.int IntKind.u8 92,AV.int IntKind.u8 (c.toNat:Int)]=u8s (b++[92,c]) by simp [u8s]]
     refine ak _ _ _ (by omega) (CutL (b:=by simp)) ⟨i+1,m+1+1,b++[92,c],rfl,hlt,by omega,hid ⟨by simp [hb.out.1],?_⟩,rfl,rfl⟩
     rw [← hb2.out,wrB,if_neg hc0,if_pos hq,List.append_assoc]
   · rename_i h0 h1
     have hc0:¬ c=0:=fun e=>h0 ((be c 0).2 e)
     have hq:¬ ((i=0∧(c=32∨c=35))∨(i+1=s.length∧c=32)∨c∈[34,43,44,59,60,62,92]):=fun hq=>by
       rw [← Bool.not_eq_true] at h1
       refine h1 ?_
       simp only [Bool.or_eq_true,Bool.and_eq_true,decide_eq_true_eq]
       rcases hq with ⟨e1,e2⟩|⟨e1,e2⟩|e
       · exact .inl (.inr ⟨by omega,hq2.out.2 e2⟩)
       · exact .inr ⟨by omega,(be c 32).2 e2⟩
       · exact .inl (.inl (hq1.out.2 e))
     rw [show u8s b++[AV.int IntKind.u8 (c.toNat:Int)]=u8s (b++[c]) by simp [u8s]]
     refine ak _ _ _ (by omega) (CutL (b:=by simp)) ⟨i+1,m+1,b++[c],rfl,hlt,by omega,hid ⟨by simp [hb.out.1],?_⟩,rfl,rfl⟩
     rw [← hb2.out,wrB,if_neg hc0,if_neg hq,List.append_assoc]
 · have hke:i=s.length:=by omega
   subst hke
   have g1:¬ (s.length:Int)<(s.length:Int):=by omega
   have e1:=fM b
   have e2:=er b
   have e:=hb.out.2
   rw [List.drop_length,wrL,List.append_nil] at e
   have h':=h.out
   rw [← e] at h'
   replace h':=hid h'
   clear e
   refine wk ?_
   exact ab rfl h'.out
def SV (n:Nat):Nat:=if n<10 then 48+n else 87+n
theorem wY {n:Nat} (hn:n<16) (h:K (.int .u8 (SV n:Nat)) L):ad Tryz.prog 216 [.int .u8 n] L K:=by
 unfold SV at h
 refine ae Kb (by simp [mM]) ?_
 simp only [mM,ar]
 by_cases h1:n<10
 · rw [if_pos h1] at h
   replace h:=hid h
   have k1:(n:Int)<10:=by omega
   have k2:IntKind.u8.wrap (48+(n:Int))=48+(n:Int):=cc (by omega) (by omega)
   clear h1
   refine wk ?_
   refine aa ?_
   simpa using h.out
 · rw [if_neg h1] at h
   replace h:=hid h
   have k1:¬ (n:Int)<10:=by omega
   have k2:IntKind.u8.wrap (97+(n:Int))=97+(n:Int):=cc (by omega) (by omega)
   have k3:IntKind.u8.wrap (97+(n:Int) - 10)=97+(n:Int) - 10:=cc (by omega) (by omega)
   clear h1
   refine wk ?_
   refine aa ?_
   have:=h.out
   rwa [show ((87+n:Nat):Int)=97+(n:Int) - 10 by omega] at this
theorem We:∀ (a:_root_.Fin 256) (x:_root_.Fin 16),(SV x.val=(jK (UInt8.ofNat a.val)).toNat)↔iq (UInt8.ofNat a.val)=some x.val:=by decide +kernel
theorem Ya {a:UInt8} {x:Nat} (hx:x<16):((SV x:Nat):Int)=((jK a).toNat:Int)↔iq a=some x:=by
 have:=We ⟨a.toNat,a.toNat_lt⟩ ⟨x,hx⟩
 simp only [UInt8.ofNat_toNat] at this
 rw [← this];omega
def QW (a b:UInt8) (k:Nat):Prop:=iq a=some (k / 16)∧iq b=some (k % 16)
theorem SC {a b:UInt8} {k:Nat} (h:QW a b k):Ju a b=some (UInt8.ofNat k):=by
 obtain ⟨h1,h2⟩:=h
 simp only [Ju,h1,h2]
 congr 2;omega
theorem SD {a b:UInt8} (h:∀ j,j<256→¬ QW a b j):Ju a b=none:=by
 unfold Ju
 rcases h1:iq a with _|x
 · rfl
 · rcases h2:iq b with _|y
   · rfl
   · have:=Dz h1
     have:=Dz h2
     exact absurd ⟨by rw [h1];congr 1;omega,by rw [h2];congr 1;omega⟩ (h (16 * x+y) (by omega))
theorem Sl {a b:UInt8} (h:K (G4 a b) L):ad Tryz.prog 181 [.str [a,b]] L K:=by
 obtain ⟨p,hp⟩:∃ p,jK a=p:=⟨_,rfl⟩
 obtain ⟨q,hq⟩:∃ q,jK b=q:=⟨_,rfl⟩
 have hf:ah [a,b]=[p,q]:=by simp [ah,hp,hq]
 have hl:[p,q].length=2:=rfl
 have hl':[a,b].length=2:=rfl
 have ha:[p,q].getD 0 0=p:=rfl
 have hb:[p,q].getD 1 0=q:=rfl
 have d1:Int.tmod 2 2=0:=by decide
 replace h:=hid h
 refine ae Kc (by simp [mN]) ?_
 simp only [mN,ar]
 refine wk ?_
 refine jr (by simp) ?_
 rw [hf]
 refine sk ?_
 refine wk ?_
 refine ch (l:=[]) (n:=0) 4 1 rfl (Nat.zero_mul 1).symm ?_
 refine am (fun n T' L'=>(n=1∧T'=[(6,.int .i64 0),(4,.gsl [] 0 L.length 1),(5,.str [p,q]),(0,.str [a,b])]∧L'=L++[.spare 0 1])∨(n=0∧∃ (x:UInt8) (w:List AV),Hid (Ju a b=some x∧w=u8s [x])∧T'=[(6,.int .i64 2),(4,.gsl w 1 L.length 1),(5,.str [p,q]),(0,.str [a,b])]∧L'=L++[.spare 1 1])) (n0:=1) (T0:=[(6,.int .i64 0),(4,.gsl [] 0 L.length 1),(5,.str [p,q]),(0,.str [a,b])]) (L0:=L++[.spare 0 1]) (CutS (b:=by simp)) (.inl ⟨rfl,rfl,rfl⟩) ?_
 rintro _ _ _ (⟨rfl,rfl,rfl⟩|⟨rfl,x,w,hx,rfl,rfl⟩)
 · refine wk ?_
   refine am (fun n T' L'=>(∃ k:Nat,n=257 - k∧k≤256∧Hid (∀ j,j<k→¬ QW a b j)∧T'=[(8,.int .i64 (k:Int)),(7,.bool false),(6,.int .i64 0),(4,.gsl [] 0 L.length 1),(5,.str [p,q]),(0,.str [a,b])]∧L'=L++[.spare 0 1])∨(n=0∧∃ (x:UInt8) (k:Nat) (w:List AV),k≤256∧Hid (Ju a b=some x∧w=u8s [x])∧T'=[(8,.int .i64 (k:Int)),(7,.bool true),(6,.int .i64 0),(4,.gsl w 1 L.length 1),(5,.str [p,q]),(0,.str [a,b])]∧L'=L++[.spare 1 1])) (n0:=257) (T0:=[(8,.int .i64 0),(7,.bool false),(6,.int .i64 0),(4,.gsl [] 0 L.length 1),(5,.str [p,q]),(0,.str [a,b])]) (L0:=L++[.spare 0 1]) (CutS (b:=by simp)) (.inl ⟨0,rfl,by omega,hid (by simp),rfl,rfl⟩) ?_
   rintro _ _ _ (⟨k,rfl,hk,hno,rfl,rfl⟩|⟨rfl,x,k,w,hk,hx,rfl,rfl⟩)
   · by_cases hlt:k<256
     · have g1:(k:Int)<256:=by omega
       have g2:IntKind.i64.wrap ((k:Int)+1)=(k:Int)+1:=ac (by omega) (by omega)
       have g3:IntKind.u8.wrap (k:Int)=(k:Int):=cc (by omega) (by omega)
       obtain ⟨u,hu⟩:∃ u,k / 16=u:=⟨_,rfl⟩
       obtain ⟨v,hv⟩:∃ v,k % 16=v:=⟨_,rfl⟩
       have hu16:u<16:=by omega
       have hv16:v<16:=by omega
       have g4:IntKind.i64.wrap (Int.tdiv (k:Int) 16)=(u:Int):=by
         rw [Int.tdiv_eq_ediv_of_nonneg (by omega),ac (by omega) (by omega)];omega
       have g5:IntKind.u8.wrap (u:Int)=(u:Int):=cc (by omega) (by omega)
       have g6:Int.tmod (k:Int) 16=(v:Int):=by
         rw [Int.tmod_eq_emod_of_nonneg (by omega)];omega
       have g7:IntKind.u8.wrap (v:Int)=(v:Int):=cc (by omega) (by omega)
       have m1:=Ya (a:=a) hu16
       have m2:=Ya (a:=b) hv16
       rw [hp] at m1
       rw [hq] at m2
       have mk:QW a b k↔iq a=some u∧iq b=some v:=by unfold QW;rw [hu,hv]
       replace hu:=hid hu
       replace hv:=hid hv
       replace mk:=hid mk
       have nxt:=hid fun (e:¬ QW a b k)=>show ∀ j,j<k+1→¬ QW a b j from fun j hj=>by
         rcases Nat.lt_or_ge j k with e'|e'
         · exact hno.out j e'
         · rw [show j=k by omega];exact e
       by_cases h1:iq a=some u
       · have k1:=m1.2 h1
         by_cases h2:iq b=some v
         · have k2:=m2.2 h2
           have hx:=SC (mk.out.2 ⟨h1,h2⟩)
           have hkk:((UInt8.ofNat k).toNat:Int)=(k:Int):=by simp;omega
           replace hkk:=hid hkk
           replace hx:=hid hx
           clear m1 m2 h1 h2
           have kk1:=@hid _ (fun L K=>wY hu16 (L:=L) (K:=K))
           have kk2:=@hid _ (fun L K=>wY hv16 (L:=L) (K:=K))
           refine wk ?_
           refine ak _ _ _ (by omega) (CutL (b:=by simp)) (.inr ⟨rfl,UInt8.ofNat k,k+1,_,by omega,hid ⟨hx.out,?_⟩,rfl,rfl⟩)
           simp only [u8s,List.map,hkk.out]
         · have k2:¬ ((SV v:Nat):Int)=(q.toNat:Int):=fun e=>h2 (m2.1 e)
           have hn:=hid (nxt.out fun e=>h2 (mk.out.1 e).2)
           clear m1 m2 h1 h2
           have kk1:=@hid _ (fun L K=>wY hu16 (L:=L) (K:=K))
           have kk2:=@hid _ (fun L K=>wY hv16 (L:=L) (K:=K))
           refine wk ?_
           exact ak _ _ _ (by omega) (CutL (b:=by simp)) (.inl ⟨k+1,rfl,by omega,hn,rfl,rfl⟩)
       · have k1:¬ ((SV u:Nat):Int)=(p.toNat:Int):=fun e=>h1 (m1.1 e)
         have hn:=hid (nxt.out fun e=>h1 (mk.out.1 e).1)
         clear m1 m2 h1
         have kk1:=@hid _ (fun L K=>wY hu16 (L:=L) (K:=K))
         refine wk ?_
         exact ak _ _ _ (by omega) (CutL (b:=by simp)) (.inl ⟨k+1,rfl,by omega,hn,rfl,rfl⟩)
     · have hke:k=256:=by omega
       subst hke
       have h':=h.out
       simp only [G4,SD hno.out] at h'
       replace h':=hid h'
       have g1:¬ ((256:Nat):Int)<256:=by omega
       refine wk ?_
       exact ab rfl h'.out
   · by_cases hlt:(k:Int)<256
     · refine wk ?_
       exact ak _ _ _ (by omega) (CutL (b:=by simp)) (.inr ⟨rfl,x,w,hx,rfl,rfl⟩)
     · refine wk ?_
       exact ak _ _ _ (by omega) (CutL (b:=by simp)) (.inr ⟨rfl,x,w,hx,rfl,rfl⟩)
 · have h':=h.out
   simp only [G4,hx.out.1] at h'
   replace h':=hid h'
   rw [hx.out.2]
   have e1:=fM [x]
   have e2:=er [x]
   refine wk ?_
   exact ab rfl h'.out
def jg (b:List UInt8) (bl:Bool) (s:List UInt8):Option (List UInt8×List UInt8):=match fI b bl s with
 | some (v,r,true)=>some (v,r)
 | _=>none
def Qw (n:Nat) (o:Option (List UInt8×List UInt8)):AV:=match o with
 | none=>.tup [.str [],.int .i64 0,.bool false]
 | some (v,r)=>.tup [.str v,.int .i64 ((n - r.length:Nat):Int),.bool true]
theorem R4 {b s:List UInt8} {c:UInt8} (h:c=44∨c=43):jg b false (c::s)=some (b,c::s):=by simp only [jg,mU h];rfl
theorem Qv {b s:List UInt8} {c:UInt8} (h:c=44∨c=43):jg b true (c::s)=none:=by simp only [jg,mU h];rfl
theorem Tq {b:List UInt8}:jg b false []=some (b,[]):=by simp only [jg,kJ];rfl
theorem R6 {b:List UInt8}:jg b true []=none:=by simp only [jg,kJ];rfl
theorem Ts {b s:List UInt8} {bl:Bool} {c:UInt8} (h:¬ (c=44∨c=43)) (h2:c≠92) (hb:c=0∨c∈([34,59,60,62]:List UInt8)∨(b=[]∧(c=32∨c=35))):jg b bl (c::s)=none:=by
 simp only [jg,kI h h2,if_pos hb]
theorem LR {b s:List UInt8} {bl:Bool} {c:UInt8} (h:¬ (c=44∨c=43)) (h2:c≠92) (hb:¬ (c=0∨c∈([34,59,60,62]:List UInt8)∨(b=[]∧(c=32∨c=35)))):jg b bl (c::s)=jg (b++[c]) (decide (c=32)) s:=by
 simp only [jg,kI h h2,if_neg hb]
theorem LD {x:UInt8} {L:List Blk} {K:AV→List Blk→Prop} (h:K (.bool (kL.contains x)) L):ad Tryz.prog 153 [.int .u8 x.toNat,.str kL] L K:=jD (by simp) h
theorem Ov {a b c d x:UInt8} {L:List Blk} {K:AV→List Blk→Prop} (h:K (.bool ([a,b,c,d].contains x)) L):ad Tryz.prog 153 [.int .u8 x.toNat,.str [a,b,c,d]] L K:=jD (by simp) h
theorem Ow {a b x:UInt8} {L:List Blk} {K:AV→List Blk→Prop} (h:K (.bool ([a,b].contains x)) L):ad Tryz.prog 153 [.int .u8 x.toNat,.str [a,b]] L K:=jD (by simp) h
theorem TF {s:List UInt8} {at0:Nat} (hs:s.length≤100000) (hat:at0≤s.length) (h:K (Qw s.length (jg [] false (s.drop at0))) L):ad Tryz.prog 172 [.str s,.int .i64 (at0:Int)] L K:=by
 obtain ⟨R,hR⟩:∃ R,jg [] false (s.drop at0)=R:=⟨_,rfl⟩
 rw [hR] at h
 replace h:=hid h
 refine ae J7 (by simp [mI]) ?_
 simp only [mI,ar]
 refine wk ?_
 refine ch (l:=[]) (n:=0) 7 1 rfl (Nat.zero_mul 1).symm ?_
 refine am (fun n T' L'=>∃ (i m:Nat) (b:List UInt8) (bl fb:Bool),n=s.length - i∧i≤s.length∧m≤i∧Hid (m=b.length∧jg b bl (s.drop i)=R∧(bl=true→i<s.length∧s.getD i 0≠44∧s.getD i 0≠43)∧(fb=true↔b=[]))∧T'=[(8,.bool fb),(1,.int .i64 (i:Int)),(7,.gsl (u8s b) m L.length 1),(0,.str s)]∧L'=L++[.spare m 1]) (CutS (b:=by simp)) ⟨at0,0,[],false,true,rfl,hat,by omega,hid ⟨rfl,hR,by simp,by simp⟩,rfl,rfl⟩ ?_
 rintro _ _ _ ⟨i,m,b,bl,fb,rfl,hi,hm,hI,rfl,rfl⟩
 have e1:=fM b
 have e2:=er b
 by_cases hlt:i<s.length
 · have g1:(i:Int)<(s.length:Int):=by omega
   have g2:IntKind.i64.wrap ((i:Int)+1)=(i:Int)+1:=ac (by omega) (by omega)
   obtain ⟨c,hc⟩:∃ c,s.getD i 0=c:=⟨_,rfl⟩
   have hdr:=jf hlt
   rw [hc] at hdr
   have hb2:=hI.out.2.1
   rw [hdr] at hb2
   by_cases hcc:c=44∨c=43
   · have hbl:bl=false:=by
       cases bl with
       | false=>rfl
       | true =>
         obtain ⟨_,n1,n2⟩:=hI.out.2.2.1 rfl
         rw [hc] at n1 n2
         rcases hcc with e|e
         · exact absurd e n1
         · exact absurd e n2
     subst hbl
     rw [R4 hcc] at hb2
     have h':=h.out
     rw [← hb2] at h'
     simp only [Qw] at h'
     rw [← hdr,List.length_drop,show s.length - (s.length - i)=i by omega] at h'
     replace h':=hid h'
     have k1:((c.toNat:Int)=44)∨((c.toNat:Int)=43):=hcc.imp (be c 44).2 (be c 43).2
     clear hb2 hcc hdr
     rcases k1 with k1|k1
     · refine wk ?_
       exact ab rfl h'.out
     · refine wk ?_
       exact ab rfl h'.out
   · have k1:¬ (c.toNat:Int)=44:=fun e=>hcc (.inl ((be c 44).1 e))
     have k2:¬ (c.toNat:Int)=43:=fun e=>hcc (.inr ((be c 43).1 e))
     by_cases h92:c=92
     · subst h92
       have g3:IntKind.i64.wrap ((i:Int)+1+1)=(i:Int)+1+1:=ac (by omega) (by omega)
       have g4:IntKind.i64.wrap ((i:Int)+1+2)=(i:Int)+1+2:=ac (by omega) (by omega)
       have t1:((i:Int)+1).toNat=i+1:=by omega
       have t3:((i:Int)+1+2).toNat=i+3:=by omega
       by_cases h1:i+1<s.length
       · have f1:(i:Int)+1<(s.length:Int):=by omega
         have f0:¬ (i:Int)+1=(s.length:Int):=by omega
         obtain ⟨d,hd⟩:∃ d,s.getD (i+1) 0=d:=⟨_,rfl⟩
         have hdr1:=jf h1
         rw [hd] at hdr1
         rw [hdr1] at hb2
         by_cases hsp:d∈kL
         · simp only [jg,Du hsp] at hb2
           have f2:kL.contains d=true:=List.contains_iff_mem.2 hsp
           clear hdr hdr1 hcc
           replace hb2:=hid hb2
           have kk1:=@hid _ @LD
           have kk2:=@hid _ @Ov
           have kk3:=@hid _ @Ow
           refine wk ?_
           rw [show u8s b++[AV.int IntKind.u8 (d.toNat:Int)]=u8s (b++[d]) by simp [u8s]]
           exact ak _ _ _ (by omega) (CutL (b:=by simp)) ⟨i+1+1,m+1,b++[d],false,false,rfl,h1,by omega,hid ⟨by simp [hI.out.1],hb2.out,by simp,by simp⟩,rfl,rfl⟩
         · have f2:kL.contains d=false:=by
             rw [← Bool.not_eq_true,List.contains_iff_mem];exact hsp
           by_cases h2:i+2<s.length
           · have f3:¬ (s.length:Int)<(i:Int)+1+2:=by omega
             have f4:(i:Int)+1≤(i:Int)+1+2:=by omega
             have f5:(i:Int)+1+2≤(s.length:Int):=by omega
             have f6:(0:Int)≤(i:Int)+1:=by omega
             obtain ⟨e,he⟩:∃ e,s.getD (i+2) 0=e:=⟨_,rfl⟩
             have hdr2:=jf h2
             rw [he] at hdr2
             rw [hdr2] at hb2
             simp only [jg,Hs hsp] at hb2
             have hcut:(s.drop (i+1)).take (i+3 - (i+1))=[d,e]:=by
               rw [hdr1,hdr2,show i+3 - (i+1)=2 by omega];rfl
             clear hdr hdr1 hdr2 hcc
             replace hb2:=hid hb2
             have kk1:=@hid _ @LD
             have kk2:=@hid _ @Ov
             have kk3:=@hid _ @Ow
             refine wk ?_
             refine Sl ?_
             rcases hx:Ju d e with _|x
             · rw [show G4 d e=.tup [.str [],.bool false] by simp only [G4,hx]]
               have h':=h.out
               rw [← hb2.out,hx] at h'
               simp only [Qw] at h'
               replace h':=hid h'
               clear hx
               refine sk ?_
               refine wk ?_
               exact ab rfl h'.out
             · rw [show G4 d e=.tup [.str [x],.bool true] by simp only [G4,hx]]
               have hb3:=hb2.out
               rw [hx] at hb3
               simp only at hb3
               replace hb3:=hid hb3
               have q1:[x].getD 0 0=x:=rfl
               clear hx hb2
               refine sk ?_
               refine wk ?_
               rw [show u8s b++[AV.int IntKind.u8 (x.toNat:Int)]=u8s (b++[x]) by simp [u8s]]
               exact ak _ _ _ (by omega) (CutL (b:=by simp)) ⟨i+1+2,m+1,b++[x],false,false,rfl,h2,by omega,hid ⟨by simp [hI.out.1],hb3.out,by simp,by simp⟩,rfl,rfl⟩
           · have f3:(s.length:Int)<(i:Int)+1+2:=by omega
             have hnil:s.drop (i+1+1)=[]:=List.drop_eq_nil_of_le (by omega)
             rw [hnil] at hb2
             simp only [jg,Dt hsp] at hb2
             have h':=h.out
             rw [← hb2] at h'
             replace h':=hid h'
             clear hdr hdr1 hb2 hcc
             have kk1:=@hid _ @LD
             have kk2:=@hid _ @Ov
             have kk3:=@hid _ @Ow
             refine wk ?_
             exact ab rfl h'.out
       · have f1:¬ (i:Int)+1<(s.length:Int):=by omega
         have f0:(i:Int)+1=(s.length:Int):=by omega
         have f3:(s.length:Int)<(s.length:Int)+2:=by omega
         have f4:¬ (s.length:Int)<(s.length:Int):=by omega
         have g5:IntKind.i64.wrap (s.length:Int)=(s.length:Int):=ac (by omega) (by omega)
         have g6:IntKind.i64.wrap ((s.length:Int)+2)=(s.length:Int)+2:=ac (by omega) (by omega)
         have hnil:s.drop (i+1)=[]:=List.drop_eq_nil_of_le (by omega)
         rw [hnil] at hb2
         simp only [jg,Dv] at hb2
         have h':=h.out
         rw [← hb2] at h'
         replace h':=hid h'
         clear hdr hb2 hcc
         have kk1:=@hid _ @LD
         have kk2:=@hid _ @Ov
         have kk3:=@hid _ @Ow
         refine wk ?_
         exact ab rfl h'.out
     · have k3:¬ (c.toNat:Int)=92:=fun e=>h92 ((be c 92).1 e)
       obtain ⟨p1,hp1⟩:∃ p,([34,59,60,62]:List UInt8).contains c=p:=⟨_,rfl⟩
       obtain ⟨p2,hp2⟩:∃ p,([32,35]:List UInt8).contains c=p:=⟨_,rfl⟩
       have hq1:p1=true↔c∈([34,59,60,62]:List UInt8):=by rw [← hp1,List.contains_iff_mem]
       have hq2:p2=true↔(c=32∨c=35):=by rw [← hp2,List.contains_iff_mem];simp
       replace hq1:=hid hq1
       replace hq2:=hid hq2
       have h0:=hid (be c 0)
       have h32:=hid (be c 32)
       have hfb:=hid hI.out.2.2.2
       obtain ⟨lst,hlst⟩:∃ lst:Bool,decide (i+1<s.length→s.getD (i+1) 0=44∨s.getD (i+1) 0=43)=lst:=⟨_,rfl⟩
       have hbad:=hid fun (e:c=0∨c∈([34,59,60,62]:List UInt8)∨(b=[]∧(c=32∨c=35)))=>(show R=none by rw [← hb2,Ts hcc h92 e])
       have hend:=hid fun (e:lst=true∧c=32)=>(show R=none by
         by_cases eb:c=0∨c∈([34,59,60,62]:List UInt8)∨(b=[]∧(c=32∨c=35))
         · exact hbad.out eb
         · rw [← hb2,LR hcc h92 eb,e.2]
           have el:=of_decide_eq_true (hlst.trans e.1)
           simp only [decide_true]
           by_cases h1:i+1<s.length
           · rw [jf h1,Qv (el h1)]
           · rw [List.drop_eq_nil_of_le (by omega),R6])
       have hgo:=hid fun (e:¬ (c=0∨c∈([34,59,60,62]:List UInt8)∨(b=[]∧(c=32∨c=35))))=>(show jg (b++[c]) (decide (c=32)) (s.drop (i+1))=R by rw [← hb2,LR hcc h92 e])
       replace hlst:=hid hlst
       clear hdr hb2 hcc
       have bad:R=none→Fin L (.tup [.str [],.int .i64 0,.bool false]) (L++[.spare m 1]) K:=fun e=>ab rfl (by have h':=h.out;rwa [e] at h')
       replace bad:=hid bad
       by_cases h1:i+1<s.length
       · have f1:(i:Int)+1<(s.length:Int):=by omega
         have f0:¬ (i:Int)+1=(s.length:Int):=by omega
         have t1:((i:Int)+1).toNat=i+1:=by omega
         obtain ⟨d,hd⟩:∃ d,s.getD (i+1) 0=d:=⟨_,rfl⟩
         have hlst2:=hid (show lst=true↔((d.toNat:Int)=44∨(d.toNat:Int)=43) by
           rw [← hlst.out,decide_eq_true_eq,hd,show (44:Int)=((44:UInt8).toNat:Int) from rfl,show (43:Int)=((43:UInt8).toNat:Int) from rfl,be,be]
           exact ⟨fun e=>e h1,fun e _=>e⟩)
         repeat' first
           | refine a8 ?_
           | (first|refine aP (by kernel_rfl) ?_|refine aB (by kernel_rfl) ?_|refine aC ?_|refine bj ?_|refine aX (fun _=>?_)|refine ay ?_|refine aS ?_|refine jD (by simp) ?_|refine aK (jD (by simp) ⟨rfl,rfl⟩) (jD (by simp) ⟨rfl,rfl⟩) ?_|refine aq (jD (by simp) ⟨rfl,rfl⟩) ?_)
             refine sm ?_
           | (first|refine aL (by kernel_rfl) ?_|refine aQ ?_|refine aR ?_|refine ba (ax ?_))
             refine sl ?_
           | exact aY
           | first|apply aZ|apply aM|apply a6|apply aN|apply a7|apply aO
           | refine aF ?_
           | first|refine aD rfl ?_|refine aE rfl ?_|refine ap rfl ?_ ?_|refine aH rfl (fun _=>?_) (fun _=>?_)|refine aG rfl (fun _=>?_) (fun _=>?_)
           | ((first|refine ao (fun _=>?_) (fun _=>?_)|refine aw (fun _=>?_) (fun _=>?_))<;>try refine sm ?_)
           | refine And.intro trivial ?_
           | refine And.intro (by omega) ?_
           | refine aI rfl (fun _=>?_) (fun _=>?_)
           | refine And.intro ?_ ?_
         · rename_i hx
           refine bad.out ?_
           simp only [Bool.or_eq_true,Bool.and_eq_true,decide_eq_true_eq] at hx
           rcases hx with ((e|e)|⟨e,e'⟩)|e
           · exact hbad.out (.inl (h0.out.1 e))
           · exact hbad.out (.inr (.inl (hq1.out.1 e)))
           · exact hbad.out (.inr (.inr ⟨hfb.out.1 e,hq2.out.1 e'⟩))
           · exact hend.out ⟨hlst2.out.2 e.1,h32.out.1 e.2⟩
         · rename_i hx
           rw [← Bool.not_eq_true] at hx
           simp only [Bool.or_eq_true,Bool.and_eq_true,decide_eq_true_eq] at hx
           rw [show u8s b++[AV.int IntKind.u8 (c.toNat:Int)]=u8s (b++[c]) by simp [u8s]]
           refine ak _ _ _ (by omega) (CutL (b:=by simp)) ⟨i+1,m+1,b++[c],decide (c=32),false,rfl,hlt,by omega,hid ⟨by simp [hI.out.1],?_,fun e=>?_,by simp⟩,rfl,rfl⟩
           · refine hgo.out fun e=>hx ?_
             rcases e with e|e|⟨e,e'⟩
             · exact .inl (.inl (.inl (h0.out.2 e)))
             · exact .inl (.inl (.inr (hq1.out.2 e)))
             · exact .inl (.inr ⟨hfb.out.2 e,hq2.out.2 e'⟩)
           · have e32:=h32.out.2 (of_decide_eq_true e)
             refine ⟨h1,?_,?_⟩
             · intro e4
               exact hx (.inr ⟨.inl (by rw [← hd,e4];rfl),e32⟩)
             · intro e4
               exact hx (.inr ⟨.inr (by rw [← hd,e4];rfl),e32⟩)
       · have f1:¬ (i:Int)+1<(s.length:Int):=by omega
         have f0:(i:Int)+1=(s.length:Int):=by omega
         have g5:IntKind.i64.wrap (s.length:Int)=(s.length:Int):=ac (by omega) (by omega)
         have hlst2:=hid (show lst=true by rw [← hlst.out,decide_eq_true_eq];exact fun e=>absurd e h1)
         repeat' first
           | refine a8 ?_
           | (first|refine aP (by kernel_rfl) ?_|refine aB (by kernel_rfl) ?_|refine aC ?_|refine bj ?_|refine aX (fun _=>?_)|refine ay ?_|refine aS ?_|refine jD (by simp) ?_|refine aK (jD (by simp) ⟨rfl,rfl⟩) (jD (by simp) ⟨rfl,rfl⟩) ?_|refine aq (jD (by simp) ⟨rfl,rfl⟩) ?_)
             refine sm ?_
           | (first|refine aL (by kernel_rfl) ?_|refine aQ ?_|refine aR ?_|refine ba (ax ?_))
             refine sl ?_
           | exact aY
           | first|apply aZ|apply aM|apply a6|apply aN|apply a7|apply aO
           | refine aF ?_
           | first|refine aD rfl ?_|refine aE rfl ?_|refine ap rfl ?_ ?_|refine aH rfl (fun _=>?_) (fun _=>?_)|refine aG rfl (fun _=>?_) (fun _=>?_)
           | ((first|refine ao (fun _=>?_) (fun _=>?_)|refine aw (fun _=>?_) (fun _=>?_))<;>try refine sm ?_)
           | refine And.intro trivial ?_
           | refine And.intro (by omega) ?_
           | refine aI rfl (fun _=>?_) (fun _=>?_)
           | refine And.intro ?_ ?_
         · rename_i hx
           refine bad.out ?_
           simp only [Bool.or_eq_true,Bool.and_eq_true,decide_eq_true_eq] at hx
           rcases hx with ((e|e)|⟨e,e'⟩)|e
           · exact hbad.out (.inl (h0.out.1 e))
           · exact hbad.out (.inr (.inl (hq1.out.1 e)))
           · exact hbad.out (.inr (.inr ⟨hfb.out.1 e,hq2.out.1 e'⟩))
           · exact hend.out ⟨hlst2.out,h32.out.1 e⟩
         · rename_i hx
           rw [← Bool.not_eq_true] at hx
           simp only [Bool.or_eq_true,Bool.and_eq_true,decide_eq_true_eq] at hx
           rw [show u8s b++[AV.int IntKind.u8 (c.toNat:Int)]=u8s (b++[c]) by simp [u8s]]
           refine ak _ _ _ (by omega) (CutL (b:=by simp)) ⟨i+1,m+1,b++[c],decide (c=32),false,rfl,hlt,by omega,hid ⟨by simp [hI.out.1],?_,fun e=>?_,by simp⟩,rfl,rfl⟩
           · refine hgo.out fun e=>hx ?_
             rcases e with e|e|⟨e,e'⟩
             · exact .inl (.inl (.inl (h0.out.2 e)))
             · exact .inl (.inl (.inr (hq1.out.2 e)))
             · exact .inl (.inr ⟨hfb.out.2 e,hq2.out.2 e'⟩)
           · have e32:=h32.out.2 (of_decide_eq_true e)
             exact absurd (.inr e32) hx
 · have hke:i=s.length:=by omega
   subst hke
   have g1:¬ (s.length:Int)<(s.length:Int):=by omega
   have hbl:bl=false:=by
     cases bl with
     | false=>rfl
     | true=>exact absurd (hI.out.2.2.1 rfl).1 (by omega)
   subst hbl
   have h':=h.out
   rw [← hI.out.2.1,List.drop_length,Tq] at h'
   simp only [Qw,List.length_nil,Nat.sub_zero] at h'
   replace h':=hid h'
   refine wk ?_
   exact ab rfl h'.out
theorem Tt:∀ (n:Nat) {s b:List UInt8} {bl:Bool} {v r:List UInt8} {ok:Bool},s.length≤n→fI b bl s=some (v,r,ok)→r <:+ s:=by
 intro n
 induction n with
 | zero =>
   intro s b bl v r ok hn h
   obtain rfl:=List.length_eq_zero_iff.1 (Nat.le_zero.1 hn)
   rw [kJ] at h;cases h;exact List.suffix_refl _
 | succ n ih =>
   intro s b bl v r ok hn h
   cases s with
   | nil=>rw [kJ] at h;cases h;exact List.suffix_refl _
   | cons c s =>
     simp only [List.length_cons] at hn
     by_cases hc:c=44∨c=43
     · rw [mU hc] at h;cases h;exact List.suffix_refl _
     by_cases h92:c=92
     · subst h92
       cases s with
       | nil=>rw [Dv] at h;cases h
       | cons d s =>
         by_cases hd:d∈kL
         · rw [Du hd] at h
           exact (ih (by simp at hn;omega) h).trans ((List.suffix_cons _ _).trans (List.suffix_cons _ _))
         · cases s with
           | nil=>rw [Dt hd] at h;cases h
           | cons e s =>
             rw [Hs hd] at h
             split at h
             · cases h
             · exact (ih (by simp at hn;omega) h).trans ((List.suffix_cons _ _).trans ((List.suffix_cons _ _).trans (List.suffix_cons _ _)))
     · rw [kI hc h92] at h
       split at h
       · cases h
       · exact (ih (by omega) h).trans (List.suffix_cons _ _)
theorem R5 {s v r:List UInt8} (h:jg [] false s=some (v,r)):fI [] false s=some (v,r,true):=by
 unfold jg at h
 split at h
 · rename_i e;cases h;exact e
 · cases h
theorem NW (f:Nat) (out:List Rdn) (now:Rdn) (s:List UInt8):qP (f+1) out now s=if out.length=32∨now.length=8 then ([],9) else match jO s with
   | none=>([],4)
   | some (typ,rest)=>if eS typ=false then ([],4) else if kA now typ=true then ([],21) else match jg [] false rest with
     | none=>([],4)
     | some (v,r2)=>match r2 with
       | []=>(out++[now++[(typ,v)]],0)
       | c::s'=>if c=44 then qP f (out++[now++[(typ,v)]]) [] s' else qP f out (now++[(typ,v)]) s':=by
 rw [qP]
 congr 1
 rcases jO s with _|⟨typ,rest⟩
 · rfl
 · simp only
   congr 1
   congr 1
   unfold jg
   rcases fI [] false rest with _|⟨v,r2,ok⟩
   · rfl
   · cases ok<;>rfl
theorem SX {s:List UInt8} {i j:Nat} (hij:i≤j) (hj:j<s.length) (hc:s.getD j 0≠61) (h:jO (s.drop i)=(jO (s.drop j)).map fun p=>((s.drop i).take (j - i)++p.1,p.2)) :
   jO (s.drop i)=(jO (s.drop (j+1))).map fun p=>((s.drop i).take (j+1 - i)++p.1,p.2):=by
 rw [h,jf hj]
 simp only [jO,if_neg hc]
 have ht:(s.drop i).take (j+1 - i)=(s.drop i).take (j - i)++[s.getD j 0]:=by
   rw [show j+1 - i=(j - i)+1 by omega,List.take_succ_eq_append_getElem (by simp;omega)]
   congr 2
   simp [show i+(j - i)=j by omega,hj]
 rw [ht]
 rcases jO (s.drop (j+1)) with _|⟨a,b⟩
 · rfl
 · simp
theorem VW {r:Rdn} {typ:List UInt8} {i n:Nat} (hr:r.length=n) (hn:n≤8) (h1:∀ a∈r,a.1.length≤32) (h2:typ.length≤4096) (h:K (.bool (kA r typ)) L) :
   ad Tryz.prog 171 [.gsl (aU r) n i 2,.str typ] L K:=by
 subst hr
 exact fH (by simpa only [AV.frzL,AV.frz,fF] using TK (cap:=none) (by omega) (fun a ha=>by have:=h1 a ha;omega) (by omega) h)
theorem Sk {s:List UInt8} {z:Int} {at0:Nat} (hz:z=(at0:Int)) (hs:s.length≤100000) (hat:at0≤s.length) (h:K (Qw s.length (jg [] false (s.drop at0))) L):ad Tryz.prog 172 [.str s,.int .i64 z] L K:=by
 subst hz;exact TF hs hat h
theorem TI {s:List UInt8} (h:K (QK (DM s)) L):ad Tryz.prog 141 [.str s] L K:=by
 refine ae Ka (by simp [mL]) ?_
 simp only [mL,ar]
 by_cases h1:4096<s.length
 · have f1:(4096:Int)<(s.length:Int):=by omega
   rw [DM,if_pos h1] at h
   replace h:=hid h
   clear h1
   refine wk ?_
   exact bE (aa h.out)
 have f1:¬ (4096:Int)<(s.length:Int):=by omega
 rw [DM,if_neg h1] at h
 have hs:=hid (show s.length≤4096 by omega)
 clear h1
 obtain ⟨R,hR⟩:∃ R,(if s=[] then ([],0) else qP (s.length+1) [] [] s)=R:=⟨_,rfl⟩
 rw [hR] at h
 replace h:=hid h
 replace hR:=hid hR
 refine wk ?_
 refine ch (l:=[]) (n:=0) 4 1 rfl (Nat.zero_mul 1).symm ?_
 refine am (fun n T' L'=>∃ (f m i:Nat) (out:List Rdn) (X:List Blk),f=n∧i≤s.length∧m≤32∧Hid (s≠[]→s.length - i<f∧qP f out [] (s.drop i)=R)∧Hid (s=[]→out=[])∧Hid (m=out.length)∧L'[L.length]?=some (.spare m 1)∧T'=[(5,.int .i64 (i:Int)),(4,.gsl (out.map bV) m L.length 1),(0,.str s)]∧L'=L++X) (CutS (b:=by simp)) ⟨s.length+1,0,0,[],[.spare 0 1],rfl,Nat.zero_le _,by omega,hid (fun e=>⟨by omega,by have:=hR.out;rw [if_neg e] at this;simpa using this⟩),hid (fun _=>rfl),hid rfl,by simp,rfl,rfl⟩ ?_
 rintro _ _ _ ⟨f,m,i,out,X,rfl,hi,hm32,hI,hI0,hm,ho,rfl,rfl⟩
 by_cases h0:s=[]
 · have h':=h.out
   rw [← hR.out,if_pos h0] at h'
   replace h':=hid h'
   have f2:¬ (0:Int)<(s.length:Int):=by rw [h0];simp
   clear h0
   refine wk ?_
   exact bE (ab rfl h'.out)
 obtain ⟨hf,hp⟩:=hI.out h0
 have f2:(0:Int)<(s.length:Int):=by have:=List.length_pos_iff.2 h0;omega
 clear hI hI0 hR h0
 have hB:L.length<(L++X).length:=(List.getElem?_eq_some_iff.1 ho).1
 by_cases hlim:m=32
 · obtain ⟨f,rfl⟩:∃ g,f=g+1:=⟨f - 1,by omega⟩
   rw [NW,if_pos (.inl (by rw [← hm.out];exact hlim))] at hp
   have h':=h.out
   rw [← hp] at h'
   replace h':=hid h'
   have k:(m:Int)=32:=by omega
   clear hp hlim hf
   refine wk ?_
   exact dX h'.out
 have k1:¬ (m:Int)=32:=by omega
 replace hp:=hid hp
 refine wk ?_
 refine am (fun n T' L'=>∃ (g i:Nat) (now:Rdn) (v:AV) (Z:List Blk),g=n∧g≤f∧i≤s.length∧now.length≤8∧Hid (s.length - i<g∧qP g out now (s.drop i)=R∧(∀ a∈now,a.1.length≤32)∧XL L.length now v L')∧L'[L.length]?=some (.spare m 1)∧X.length≤Z.length∧T'=[(6,v),(5,.int .i64 (i:Int)),(4,.gsl (out.map bV) m L.length 1),(0,.str s)]∧L'=L++Z) (CutS (b:=by simp)) ⟨f,i,[],_,X,rfl,Nat.le_refl _,hi,by simp,hid ⟨hf,hp.out,by simp,.inl ⟨rfl,rfl,rfl⟩⟩,ho,Nat.le_refl _,rfl,rfl⟩ ?_
 clear hp hf ho hi
 rintro _ _ _ ⟨g,i,now,v,X1,rfl,hgf,hi,hn8,hI,ho,hXZ,rfl,rfl⟩
 obtain ⟨hf,hp,ht,hv⟩:=hI.out
 clear hI
 obtain ⟨g,rfl⟩:∃ g',g=g'+1:=⟨g - 1,by omega⟩
 have hB1:L.length<(L++X1).length:=(List.getElem?_eq_some_iff.1 ho).1
 refine Pb 6 2 L.length rfl hB1 hv fun p Y hBi hpi=>?_
 rw [List.append_assoc] at hpi ⊢
 have ho2:(L++(X1++Y))[L.length]?=some (.spare m 1):=by rw [← List.append_assoc,List.getElem?_append_left hB1];exact ho
 have hXZ2:X.length≤(X1++Y).length:=by simp;omega
 generalize X1++Y=Z at hpi ho2 hXZ2 ⊢
 clear ho hB1 hv hXZ X1 Y
 replace hXZ2:=hid hXZ2
 have hpl:=(List.getElem?_eq_some_iff.1 hpi).1
 have hol:=(List.getElem?_eq_some_iff.1 ho2).1
 have hz:p - L.length≠0:=by omega
 obtain ⟨c,hc⟩:∃ c:Nat,now.length=c:=⟨_,rfl⟩
 rw [NW] at hp
 rw [hc] at hp hpi hn8 ⊢
 rw [List.length_append] at hpl hol
 replace hz:=hid hz
 replace hpl:=hid hpl
 replace hol:=hid hol
 by_cases hlim2:c=8
 · rw [if_pos (.inr hlim2)] at hp
   have h':=h.out
   rw [← hp] at h'
   replace h':=hid h'
   have k:(c:Int)=8:=by omega
   clear hp hlim2
   refine wk ?_
   exact dX h'.out
 rw [if_neg (by rw [← hm.out];omega)] at hp
 have k2:¬ (c:Int)=8:=by omega
 replace hp:=hid hp
 replace ht:=hid ht
 replace hf:=hid hf
 refine wk ?_
 refine am (fun n T' L'=>∃ j:Nat,n=s.length - j∧i≤j∧j≤s.length∧Hid (jO (s.drop i)=(jO (s.drop j)).map fun p=>((s.drop i).take (j - i)++p.1,p.2))∧T'=[(7,.int .i64 (j:Int)),(6,.gsl (aU now) c p 2),(5,.int .i64 (i:Int)),(4,.gsl (out.map bV) m L.length 1),(0,.str s)]∧L'=L++Z) (CutS (b:=by simp)) ⟨i,rfl,Nat.le_refl _,hi,hid (by rcases jO (s.drop i) with _|⟨a,b⟩<;>simp),rfl,rfl⟩ ?_
 rintro _ _ _ ⟨j,rfl,hij,hj,hcut,rfl,rfl⟩
 by_cases hjl:j<s.length
 rotate_left
 · have hje:j=s.length:=by omega
   subst hje
   have g1:¬ (s.length:Int)<(s.length:Int):=by omega
   have e:=hcut.out
   rw [List.drop_length] at e
   simp only [jO,Option.map_none] at e
   have h':=h.out
   rw [← hp.out,e] at h'
   simp only at h'
   replace h':=hid h'
   clear e
   refine wk ?_
   exact dX h'.out
 have g1:(j:Int)<(s.length:Int):=by omega
 have g2:IntKind.i64.wrap ((j:Int)+1)=(j:Int)+1:=ac (by omega) (by omega)
 obtain ⟨x,hx⟩:∃ x,s.getD j 0=x:=⟨_,rfl⟩
 by_cases h61:x=61
 rotate_left
 · have g3:¬ (x.toNat:Int)=61:=fun e=>h61 ((be x 61).1 e)
   have hcut':=hid (SX hij hjl (by rw [hx];exact h61) hcut.out)
   clear h61
   refine wk ?_
   exact ak _ _ _ (by omega) (CutL (b:=by simp)) ⟨j+1,rfl,by omega,hjl,hcut',rfl,rfl⟩
 subst h61
 have g3:((61:UInt8).toNat:Int)=61:=rfl
 have hcutS:jO (s.drop i)=some ((s.drop i).take (j - i),s.drop (j+1)):=by
   rw [hcut.out,jf hjl,hx]
   simp [jO]
 clear hcut
 obtain ⟨typ,htyp⟩:∃ t,(s.drop i).take (j - i)=t:=⟨_,rfl⟩
 have htl:typ.length≤4096:=by rw [← htyp];have:=hs.out;simp;omega
 have htl3:(typ.length:Int)≤100000:=by omega
 rw [htyp] at hcutS
 have hp2:=hp.out
 rw [hcutS] at hp2
 simp only at hp2
 have g4:¬ (j:Int)=(s.length:Int):=by omega
 have g5:(i:Int)≤(j:Int):=by omega
 have g6:(j:Int)≤(s.length:Int):=by omega
 replace hp2:=hid hp2
 clear hcutS hp
 cases hty:eS typ with
 | false =>
   have h':=h.out
   rw [← hp2.out,if_pos hty] at h'
   replace h':=hid h'
   have kk1:=@hid _ (fun L K=>HA htl3 (L:=L) (K:=K))
   refine wk ?_
   exact dX h'.out
 | true =>
 have hp3:=hp2.out
 rw [if_neg (by rw [hty];simp)] at hp3
 replace hp3:=hid hp3
 clear hp2
 have hpn:=hid (show p≠L.length+Z.length by have:=hpl.out;omega)
 have b1:∀ b,(L++(Z++[b]))[p]?=some (.spare c 2):=fun b=>by
   rw [← List.append_assoc,List.getElem?_append_left (List.getElem?_eq_some_iff.1 hpi).1];exact hpi
 have b2:∀ A b,(L++(Z++[b])).set p A=L++(Z.set (p - L.length) A++[b]):=fun A b=>by
   rw [List.set_append_right _ _ (by omega),List.set_append_left _ _ (by have:=hpl.out;omega)]
 have b3:∀ A b,(L++(Z.set (p - L.length) A++[b]))[L.length]?=some (.spare m 1):=fun A b=>by
   rw [← b2,List.getElem?_set_ne (by omega),← List.append_assoc,List.getElem?_append_left (List.getElem?_eq_some_iff.1 ho2).1];exact ho2
 have b4:∀ A b,(L++(Z.set (p - L.length) A++[b]))[p]?=some A:=fun A b=>by
   rw [← b2,List.getElem?_set,if_pos rfl,if_pos (by have:=hpl.out;simp;omega)]
 have hsl:(i:Int).toNat=i:=by omega
 have kk1:=@hid _ (fun L K=>HA htl3 (L:=L) (K:=K))
 refine wk ?_
 refine VW hc hn8 ht.out (by omega) ?_
 cases hha:kA now typ with
 | true =>
   have h':=h.out
   rw [← hp3.out,if_pos hha] at h'
   replace h':=hid h'
   refine sk ?_
   refine wk ?_
   exact dX h'.out
 | false =>
 have hp4:=hp3.out
 rw [if_neg (by rw [hha];simp)] at hp4
 replace hp4:=hid hp4
 clear hp3
 refine sk ?_
 refine wk ?_
 refine Sk (at0:=j+1) (by omega) (by have:=hs.out;omega) hjl ?_
 rcases hvl:jg [] false (s.drop (j+1)) with _|⟨w,r2⟩
 · have h':=h.out
   rw [← hp4.out,hvl] at h'
   simp only at h'
   replace h':=hid h'
   simp only [Qw]
   refine sk ?_
   refine wk ?_
   exact dX h'.out
 have hp5:=hp4.out
 rw [hvl] at hp5
 simp only at hp5
 have hsuf:=Tt _ (Nat.le_refl _) (R5 hvl)
 have hsd:r2=s.drop (s.length - r2.length):=List.suffix_iff_eq_drop.1 (hsuf.trans (List.drop_suffix _ _))
 have hl2:r2.length≤s.length - (j+1):=by have:=hsuf.length_le;simpa using this
 obtain ⟨t,ht0⟩:∃ t,s.length - r2.length=t:=⟨_,rfl⟩
 rw [ht0] at hsd
 have htj:j<t:=by omega
 have hts:t≤s.length:=by omega
 simp only [Qw,ht0]
 replace hp5:=hid hp5
 clear hp4 hvl hsuf
 replace hsd:=hid hsd
 have q1:(c+1) * 32≤140737488355328:=by omega
 have q2:c+1≤140737488355328:=by omega
 have q3:(m+1) * 24≤140737488355328:=by omega
 have q4:m+1≤140737488355328:=by omega
 have e1:aU now++[AV.str typ,AV.str w]=aU (now++[(typ,w)]):=(Oj _ _ _).symm
 have e2:out.map bV++[AV.sl (AV.frzL (aU now++[AV.str typ,AV.str w])) (c+1) none]=(out++[now++[(typ,w)]]).map bV:=by
   rw [e1,fF,List.map_append]
   simp [hc]
 have e3:(out++[now++[(typ,w)]]).length=m+1:=by simp [hm.out]
 have e4:(now++[(typ,w)]).length=c+1:=by simp [hc]
 have e5:∀ a∈now++[(typ,w)],a.1.length≤32:=fun a ha=>by
   rcases List.mem_append.1 ha with h|h
   · exact ht.out a h
   · rw [List.mem_singleton.1 h];exact mV hty
 have s4:∀ (W:List Blk) A,(L++W).set L.length A=L++W.set 0 A:=fun W A=>by rw [List.set_append_right _ _ (Nat.le_refl _),Nat.sub_self]
 have g7:IntKind.i64.wrap ((t:Int)+1)=(t:Int)+1:=ac (by have:=hs.out;omega) (by have:=hs.out;omega)
 replace e1:=hid e1
 replace e2:=hid e2
 replace e3:=hid e3
 replace e4:=hid e4
 replace e5:=hid e5
 cases r2 with
 | nil =>
   have h':=h.out
   rw [← hp5.out] at h'
   simp only at h'
   replace h':=hid h'
   have hte:t=s.length:=by simp at ht0;omega
   subst hte
   refine sk ?_
   refine wk ?_
   rw [e2.out]
   refine bE (ab ?_ ?_)
   · simp only [AV.frz,AV.frzL,mY,AV.refs,AV.refsL,Dx,Bool.and_self]
   · simp only [AV.frz,AV.frzL,mY]
     have:=h'.out
     simp only [QK,e3.out] at this
     exact this
 | cons x s' =>
   simp only at hp5
   have htl2:t<s.length:=by simp at ht0 hl2;omega
   have k3:¬ (t:Int)=(s.length:Int):=by omega
   have k4:(t:Int)<(s.length:Int):=by omega
   have hxd:=hsd.out
   rw [jf htl2] at hxd
   obtain ⟨hx1,hx2⟩:=List.cons.inj hxd
   have hx3:=hx1.symm
   replace hx2:=hid hx2
   clear hxd hx1
   by_cases hx:x=44
   · subst hx
     refine sk ?_
     refine wk ?_
     rw [e2.out]
     refine ak _ _ _ ?_ (CutS (b:=?_)) ⟨g,m+1,t+1,out++[now++[(typ,w)]],_,rfl,htl2,?_,hid fun _=>⟨?_,?_⟩,hid fun e=>?_,hid e3.out.symm,?_,rfl,rfl⟩
     · omega
     · simp
     · have:=hm.out;omega
     · have:=hf.out;omega
     · rw [← hx2.out,← hp5.out,if_pos rfl]
     · rw [e] at htl2;simp at htl2
     · rw [← s4,List.getElem?_set,if_pos rfl,if_pos (by simp)]
   · have q6:¬ (x.toNat:Int)=44:=fun e=>hx ((be x 44).1 e)
     refine sk ?_
     refine wk ?_
     rw [e1.out]
     refine ak _ _ _ ?_ (CutS (b:=?_)) ⟨g,t+1,now++[(typ,w)],_,_,rfl,?_,htl2,?_,hid ⟨?_,?_,e5.out,.inr ⟨p,hBi,by rw [e4.out],by rw [e4.out];exact b4 _ _⟩⟩,b3 _ _,?_,rfl,rfl⟩
     · omega
     · have:=hXZ2.out;simp;omega
     · omega
     · rw [e4.out];omega
     · have:=hf.out;omega
     · rw [← hx2.out,← hp5.out,if_neg hx]
     · have:=hXZ2.out;simp;omega
end Go.Proofs.YtkkgmgmgcgiffaaGreatDoor.Av
