/- Joined texts of the walk, made small by a program. -/
import Derived.Test.YtigifoeopopnbaaGreatDoorQk4
import Derived.Test.YtigifoeopopnbaaGreatDoorRows
import Derived.KernelRfl
import Derived.Test.YtigifoeopopnbaaGreatDoorQk12
import Derived.Test.YtigifoeopopnbaaGreatDoorQk6
import Derived.Test.YtigifoeopopnbaaGreatDoorQk11
set_option linter.unusedSimpArgs false
set_option linter.unusedVariables false
set_option maxRecDepth 100000
namespace Go.Proofs.YtigifoeopopnbaaGreatDoor.Av
open Go
def zP:LSO:=[Ab 4 0,Ag 5]
def zO:LSO:=[Aa 6 0,Aa 7 1,Ao 8 25 7,o1 9 (.call 68 [(tm 6),(tm 8),(.av (.func 69 []))]),Ar 10 9,As 11 9,Aa 4 10,Aa 5 11]
def gM:aV:=⟨12,(.seq (.sreg zP [])
 (.seq (.sreg zO Cu)
 .ret)),[(.tmp 4),(.tmp 5)]⟩
attribute [push_cast] zP zO
theorem ub:aX Tryz.prog (fun _ _=>1) 45=some gM.raw:=by kernel_rfl
def ot:LSO:=[Az 2 0,Ab 4 0]
def oq:LSO:=[Ad 5 0 2,Ac 6 1 5,Ao 7 25 6,Aa 8 1,Am 9 70 7 8,Aa 4 9]
def fY:aV:=⟨10,(.seq (.sreg ot [])
 (.seq (.sreg oq Co)
 .ret)),[(.tmp 4)]⟩
attribute [push_cast] ot oq
theorem mP:aX Tryz.prog (fun _ _=>1) 69=some fY.raw:=by kernel_rfl
def G7:LSO:=[Ak 2]
def G6:LSO:=[Ak 3]
def G5:LSO:=[Aa 6 0,Ah 7 6,Ab 8 0]
def G4:LSO:=[Ai 9 8 7]
def G3:LSO:=[Aj 10 2 6 8,An 11 2 10,Bf 5,Ap 2 5 11]
def G2:List (ak×Kd) :=
 [Ay 12 3,A5 13 0 5,A8 14 1 13 0 1,A5 15 1 5,A8 16 1 15 0 0,od 17 (.call 46 [(tm 16)]) .eff,BO 18 14 17,B9 19 18 0 0]
def zN:List ak :=
 [⟨(some 20),(.app 2 2 40 [(.str []),(.sl [] 0 (some 0))] (tm 12) (tm 19)),none⟩,⟨(some 3),(.mv (tm 20)),none⟩]
def G1:LSO:=[Af 21 8 1,Aa 8 21]
def G0:LSO:=[Aa 22 3,Aa 2 22]
def uT:aV:=⟨23,(.seq (.sreg G7 [])
 (.seq (.sreg G6 [])
 (.seq (.seq (.sreg G5 [])
 (.block 0 (.loop (.seq (.sreg G4 [])
 (.seq (.cond (tm 9) .skip
 (.exit 0))
 (.seq (.block 1 (.seq (.sreg G3 Ck)
 (.dregM G2 zN Cv)))
 (.sreg G1 Cj)))))))
 (.seq (.sreg G0 Cj)
 .ret)))),[(.tmp 2)]⟩
attribute [push_cast] G7 G6 G5 G4 G3 G2 zN G1 G0
theorem PX:aX Tryz.prog (fun r i=>if r=5/\i=8 then 2 else if r=5/\i=5 then 3 else 1) 59=some uT.raw:=by kernel_rfl
def zM:LSO:=[Az 3 0,Ab 6 0,Ag 7,Ag 8]
def zL:LSO:=[Ad 14 1 3,Ac 15 1 14,Aa 16 2,Am 17 52 15 16,Aa 13 17,Ar 18 13,As 19 13,Aa 9 18,Aa 10 19]
def zK:LSO:=[Aa 20 10,Aw 21 20]
def zJ:LSO:=[Ab 6 0,Ag 7,Ag 8]
def zI:LSO:=[Aa 23 1,Aa 24 9,o1 25 (.mkfn 84 [(tm 3)]),AD 26 83 23 24 25,Aa 22 26,Ar 27 22,As 28 22,Aa 11 27,Aa 12 28]
def zH:LSO:=[Aa 29 11,Aa 30 12,Aa 6 29,Aa 7 30,A0 8]
def gL:aV:=⟨31,(.seq (.sreg zM [])
 (.seq (.sreg zL C0)
 (.seq (.seq (.sreg zK Cj)
 (.cond (tm 21) (.seq (.sreg zJ [])
 .ret)
 .skip))
 (.seq (.sreg zI C0)
 (.seq (.sreg zH C7)
 .ret))))),[(.tmp 6),(.tmp 7),(.tmp 8)]⟩
attribute [push_cast] zM zL zK zJ zI zH
theorem ua:aX Tryz.prog (fun _ _=>1) 53=some gL.raw:=by kernel_rfl
def oo:LSO:=[Ab 5 0]
def om:LSO:=[Ad 9 1 2,Ac 10 1 9,Aa 11 0,Am 12 52 10 11,Aa 8 12,Ar 13 8,As 14 8,Aa 6 13,Aa 7 14]
def ol:LSO:=[Aa 15 6,Aa 16 1,Am 17 70 15 16,Aa 5 17]
def kX:aV:=⟨18,(.seq (.sreg oo [])
 (.seq (.sreg om CI)
 (.seq (.sreg ol Cl)
 .ret))),[(.tmp 5)]⟩
attribute [push_cast] oo om ol
theorem Ly:aX Tryz.prog (fun _ _=>1) 84=some kX.raw:=by kernel_rfl
def lM:LSO:=[Az 4 1,Ab 6 0]
def lL:LSO:=[Aa 16 0,AJ 17 16,Ad 18 2 17,Ac 19 1 18,Ad 20 0 4,Ac 21 1 20,Am 22 45 19 21,Aa 15 22,Ar 23 15,As 24 15,Aa 7 23,Aa 8 24]
def lK:LSO:=[Ak 9]
def lJ:LSO:=[Aa 25 8]
def lI:LSO:=[Aa 26 0,AJ 27 26,Ad 28 2 27,Ac 29 1 28,Aa 30 7,Aj 31 2 29 30,Ad 32 1 31,Ac 33 1 32,Aa 9 33]
def lH:LSO:=[Aa 34 2,Ah 35 34,Ab 36 0]
def lG:LSO:=[Ai 37 36 35]
def lF:LSO:=[Aj 38 1 34 36,Ac 39 1 38,Aa 11 39]
def lE:LSO:=[An 41 4 4,Aa 42 9,Aa 43 11,AD 44 53 41 42 43,Aa 40 44,Ar 45 40,As 46 40,Ba 47 40,Aa 12 45,Aa 13 46,Aa 14 47]
def lD:LSO:=[Aa 49 14,Aw 50 49,Aa 48 50]
def kx:LSO:=[Ab 6 21]
def ku:LSO:=[Aa 52 13,Aa 51 52]
def kr:LSO:=[Ab 6 20]
def kq:LSO:=[Aa 53 9,Aa 54 12,Aa 55 11,AE 56 55,AD 57 107 53 54 56,Aa 9 57]
def kp:LSO:=[Af 58 36 1,Aa 36 58]
def ko:LSO:=[Ad 74 2 4,Ac 75 1 74,Aa 76 75,.grp none 76 true
 [Ae 77 76 9,AT 78 76 77,og 79 76 true (.bin .gtr (tm 78) (iv 1))]
 80 (tm 79),Aa 73 80]
def kl:LSO:=[Ab 6 19]
def kk:LSO:=[Aa 82 9,Ah 83 82,Au 84 83 0,Aa 81 84]
def kj:LSO:=[Aa 86 8,Aa 85 86]
def ki:LSO:=[Aa 87 0,AJ 88 87,Ad 89 2 88,Ac 90 1 89,Aa 91 7,Aa 92 9,Aj 93 2 90 91,Ad 94 1 93,Ap 1 94 92]
def kg:List (ak×Kd) :=
 [Ay 59 0,Ay 60 0,od 61 (.nilchk (tm 60)) (.read 0 0),A5 62 2 61,A8 63 1 62 0 0,Ay 64 7,A5 65 0 4,A8 66 1 65 0 0,Ay 67 9,BO 68 66 67,B9 69 68 0 0,
 od 70 (.call 108 [(tm 63),(tm 64),(tm 69)]) .eff]
def jl:List ak :=
 [⟨(some 71),(.nilchk (tm 59)),none⟩,⟨(some 72),(.faddr 2 (tm 71)),none⟩,⟨none,(.store 1 (tm 72) (tm 70)),none⟩]
def kf:LSO:=[Ab 6 0]
def iF:aV:=⟨95,(.seq (.sreg lM [])
 (.seq (.sdreg lL [.pure,(.read 0 0),.pure,(.read 0 0),.pure,(.read 0 0),(.read 0 0),.pure,.pure,.pure,.pure] C3)
 (.seq (.sreg lK [])
 (.seq (.seq (.sreg lJ [])
 (.cond (tm 25) (.sreg lI Cx)
 .skip))
 (.seq (.seq (.sreg lH [])
 (.block 0 (.loop (.seq (.sreg lG [])
 (.seq (.cond (tm 37) .skip
 (.exit 0))
 (.seq (.block 1 (.seq (.sreg lF Ck)
 (.seq (.sreg lE CJ)
 (.seq (.block 2 (.seq (.sreg lD Ck)
 (.cond (tm 48) (.seq (.sreg kx [])
 .ret)
 (.seq (.sreg ku Cj)
 (.cond (tm 51) (.seq (.sreg kr [])
 .ret)
 .skip)))))
 (.sreg kq Co)))))
 (.sreg kp Cj)))))))
 (.seq (.block 3 (.seq (.sreg ko Cm)
 (.cond (tm 73) (.seq (.sreg kl [])
 .ret)
 (.seq (.sreg kk Cl)
 (.cond (tm 81) .skip
 (.seq (.sreg kj Cj)
 (.cond (tm 85) (.sreg ki Cy)
 (.dregM kg jl [false,false,false,false,false,false,false,false,false,false,false,false,false,false]))))))))
 (.seq (.sreg kf [])
 .ret))))))),[(.tmp 6)]⟩
attribute [push_cast] lM lL lK lJ lI lH lG lF lE lD kx ku kr kq kp ko kl kk kj ki kg jl kf
theorem HX:aX Tryz.prog (fun r i=>if r=15/\i=11 then 3 else 1) 88=some iF.raw:=by kernel_rfl
def ke:LSO:=[Az 4 1,Ab 6 0]
def kc:LSO:=[Aa 16 0,AJ 17 16,Ad 18 2 17,Ac 19 1 18,Ad 20 0 4,Ac 21 1 20,Am 22 45 19 21,Aa 15 22,Ar 23 15,As 24 15,Aa 7 23,Aa 8 24]
def kb:LSO:=[Ak 9]
def ka:LSO:=[Aa 25 8]
def j9:LSO:=[Aa 26 0,AJ 27 26,Ad 28 2 27,Ac 29 1 28,Aa 30 7,Aj 31 2 29 30,Ad 32 1 31,Ac 33 1 32,Aa 9 33]
def j8:LSO:=[Aa 34 2,Ah 35 34,Ab 36 0]
def j7:LSO:=[Ai 37 36 35]
def j6:LSO:=[Aj 38 1 34 36,Ac 39 1 38,Aa 11 39]
def j5:LSO:=[An 41 4 4,Aa 42 9,Aa 43 11,AD 44 53 41 42 43,Aa 40 44,Ar 45 40,As 46 40,Ba 47 40,Aa 12 45,Aa 13 46,Aa 14 47]
def j4:LSO:=[Aa 49 14,Aw 50 49,Aa 48 50]
def jk:LSO:=[Ab 6 21]
def jj:LSO:=[Aa 52 13,Aw 53 52,Aa 51 53]
def ji:LSO:=[Ab 6 16]
def jh:LSO:=[Aa 54 9,Aa 55 12,Aa 56 12,Af 57 56 1,AD 58 106 54 55 57,Aa 9 58]
def jg:LSO:=[Af 59 36 1,Aa 36 59]
def jf:LSO:=[Aa 69 8,Aw 70 69,Aa 68 70]
def je:LSO:=[Ab 6 16]
def jd:LSO:=[Aa 72 2,Ah 73 72,Au 74 73 0,Aa 75 74,.grp none 75 false
 [Al 76 75 9,Bo 77 75 76,AK 78 75 77 0]
 79 (tm 78),Aa 71 79]
def jc:LSO:=[Aa 80 0,Aa 81 0,AJ 82 81,Ad 83 2 82,Ac 84 1 83,Aa 85 7,Aa 86 7,Af 87 86 1,AD 88 87 84 85 87,AJ 89 80,Ad 90 2 89,Ap 1 90 88]
def jb:LSO:=[Aa 60 0,AJ 61 60,Ad 62 2 61,Ac 63 1 62,Aa 64 7,Aa 65 9,Aj 66 2 63 64,Ad 67 1 66,Ap 1 67 65]
def ja:LSO:=[Ab 6 0]
def gS:aV:=⟨91,(.seq (.sreg ke [])
 (.seq (.sdreg kc [.pure,(.read 0 0),.pure,(.read 0 0),.pure,(.read 0 0),(.read 0 0),.pure,.pure,.pure,.pure] C3)
 (.seq (.sreg kb [])
 (.seq (.seq (.sreg ka [])
 (.cond (tm 25) (.sreg j9 Cx)
 .skip))
 (.seq (.seq (.sreg j8 [])
 (.block 0 (.loop (.seq (.sreg j7 [])
 (.seq (.cond (tm 37) .skip
 (.exit 0))
 (.seq (.block 1 (.seq (.sreg j6 Ck)
 (.seq (.sreg j5 CJ)
 (.seq (.block 2 (.seq (.sreg j4 Ck)
 (.cond (tm 48) (.seq (.sreg jk [])
 .ret)
 (.seq (.sreg jj Ck)
 (.cond (tm 51) (.seq (.sreg ji [])
 .ret)
 .skip)))))
 (.sreg jh Co)))))
 (.sreg jg Cj)))))))
 (.seq (.block 3 (.seq (.sreg jf Ck)
 (.cond (tm 68) (.seq (.sreg je [])
 .ret)
 (.seq (.sreg jd Co)
 (.cond (tm 71) (.sreg jc CL)
 (.sreg jb Cy))))))
 (.seq (.sreg ja [])
 .ret))))))),[(.tmp 6)]⟩
attribute [push_cast] ke kc kb ka j9 j8 j7 j6 j5 j4 jk jj ji jh jg jf je jd jc jb ja
theorem DF:aX Tryz.prog (fun _ _=>1) 86=some gS.raw:=by kernel_rfl
def lC:LSO:=[Az 3 1,Ab 4 0]
def lB:LSO:=[Ad 9 0 3,Ac 10 1 9,AA 11 10 0,Aa 12 11,.grp none 12 false
 [Bb 13 12 0 3,AP 14 12 1 13,AB 15 12 14 2]
 16 (tm 15)]
def lA:LSO:=[Ab 4 2]
def lz:List (ak×Kd) :=
 [Ay 18 0,od 19 (.nilchk (tm 18)) (.read 0 1),A5 20 0 19,BA 21 2 20 0 1,A5 22 1 3,A8 23 1 22 0 1,BP 24 51 21 23 0 1,Ay 17 24,od 25 (.extract (tm 17) 0) .pure,
 od 26 (.extract (tm 17) 1) .pure,od 5 (.alloc [(.str []),(.int .i64 0),(.bool false),(.bool false)]) .eff,
 (⟨none,(.store 4 (tm 5) (tm 25)),none⟩,.eff)]
def jS:List ak :=
 [⟨(some 6),(.mv (tm 26)),none⟩]
def lw:LSO:=[Aa 27 6,Aw 28 27]
def lv:LSO:=[Ab 4 17]
def lu:LSO:=[Ad 29 0 3,Ac 30 1 29]
def lr:LSO:=[Au 32 30 0,Aa 31 32]
def lq:LSO:=[Ad 33 2 3,Ac 34 1 33,Ah 35 34,Au 36 35 0]
def lp:LSO:=[Ab 4 2]
def jZ:LSO:=[Au 38 30 1,Aa 37 38]
def jY:LSO:=[Aa 39 0,An 40 4 5,Ad 41 2 3,Ac 42 1 41,AD 43 86 39 40 42,Aa 4 43]
def jX:LSO:=[Au 45 30 2,Aa 44 45]
def jW:LSO:=[Aa 47 0,AJ 48 47,Ad 49 2 48,Ac 50 1 49,Ad 51 0 5,Ac 52 1 51,Am 53 45 50 52,Aa 46 53,Ar 54 46,As 55 46,Aa 7 54,Aa 8 55]
def jV:LSO:=[Aa 56 8]
def jU:LSO:=[Aa 57 0,Aa 58 0,AJ 59 58,Ad 60 2 59,Ac 61 1 60,Aa 62 7,Aa 63 7,Af 64 63 1,AD 65 87 61 62 64,AJ 66 57,Ad 67 2 66,Ap 1 67 65]
def jT:LSO:=[Aa 68 0,An 69 4 5,Ad 70 2 3,Ac 71 1 70,AD 72 88 68 69 71,Aa 4 72]
def iE:aV:=⟨73,(.seq (.sreg lC [])
 (.seq (.seq (.sreg lB Cm)
 (.cond (tm 16) (.seq (.sreg lA [])
 .ret)
 .skip))
 (.seq (.dregM lz jS C3)
 (.seq (.seq (.sreg lw Cj)
 (.cond (tm 28) (.seq (.sreg lv [])
 .ret)
 .skip))
 (.seq (.seq (.sreg lu Cj)
 (.block 0 (.seq (.sreg lr Cj)
 (.cond (tm 31) (.seq (.sreg lq Cl)
 (.cond (tm 36) (.seq (.sreg lp [])
 .ret)
 .skip))
 (.seq (.sreg jZ Cj)
 (.cond (tm 37) (.seq (.sreg jY Co)
 .ret)
 (.seq (.sreg jX Cj)
 (.cond (tm 44) (.seq (.sdreg jW [.pure,(.read 0 0),.pure,(.read 0 0),.pure,(.read 0 0),(.read 0 0),.pure,.pure,.pure,.pure] C3)
 (.seq (.sreg jV [])
 (.cond (tm 56) (.sreg jU CL)
 .skip)))
 .skip))))))))
 (.seq (.sreg jT Co)
 .ret)))))),[(.tmp 4)]⟩
attribute [push_cast] lC lB lA lz jS lw lv lu lr lq lp jZ jY jX jW jV jU jT
theorem HW:aX Tryz.prog (fun _ _=>1) 60=some iE.raw:=by kernel_rfl
def J8:LSO:=[Ak 4]
def J7:LSO:=[Aa 8 0,Aa 9 1,Am 10 45 8 9,Aa 7 10,Ar 11 7,As 12 7,Aa 5 11,Aa 6 12]
def J6:LSO:=[Aa 13 6]
def J5:LSO:=[Aa 14 0,Aa 15 5,Aj 16 2 14 15,Ad 17 1 16,Ac 18 1 17,Ao 19 46 18,Aa 4 19]
def J4:LSO:=[Ak 4]
def gq:aV:=⟨20,(.seq (.sreg J8 [])
 (.seq (.seq (.sreg J7 Cu)
 (.seq (.sreg J6 [])
 (.cond (tm 13) (.seq (.sreg J5 Cq)
 .ret)
 .skip)))
 (.seq (.sreg J4 [])
 .ret))),[(.tmp 4)]⟩
attribute [push_cast] J8 J7 J6 J5 J4
theorem mQ:aX Tryz.prog (fun _ _=>1) 22=some gq.raw:=by kernel_rfl
def J3:LSO:=[Az 4 0,Ag 8]
def J2:LSO:=[An 17 2 4,Aa 18 2,Am 19 51 17 18,Aa 16 19,Ar 20 16,As 21 16,Bh 9,Ap 4 9 20,Aa 10 21]
def J1:LSO:=[Aa 23 1,Aa 24 2,Am 25 45 23 24,Aa 22 25,Ar 26 22,As 27 22,Aa 11 26,Aa 12 27]
def J0:LSO:=[Aa 28 10,Aw 29 28,Aa 30 29,.grp none 30 false
 [Al 31 30 12,Bg 32 30 31]
 33 (tm 32)]
def JZ:LSO:=[Ag 8]
def JY:LSO:=[An 35 4 9,Aa 36 1,Aa 37 11,Aj 38 2 36 37,Ad 39 1 38,Ac 40 1 39,Aa 41 3,AD 42 53 35 40 41,Aa 34 42,Ar 43 34,As 44 34,Ba 45 34,Aa 13 43,Aa 14 44,Aa 15 45]
def JX:LSO:=[Aa 46 14,Aa 8 46]
def HY:aV:=⟨47,(.seq (.sreg J3 [])
 (.seq (.sreg J2 Cu)
 (.seq (.sreg J1 Cu)
 (.seq (.seq (.sreg J0 Cl)
 (.cond (tm 33) (.seq (.sreg JZ [])
 .ret)
 .skip))
 (.seq (.sdreg JY [(.read 0 0),.pure,.pure,(.read 0 0),.pure,(.read 0 0),.pure,(.read 0 0),.pure,.pure,.pure,.pure,.pure,.pure] [false,true,false,false,false,false,false,false,false,false,false,false,false,false,false])
 (.seq (.sreg JX Cj)
 .ret)))))),[(.tmp 8)]⟩
attribute [push_cast] J3 J2 J1 J0 JZ JY JX
theorem Ry:aX Tryz.prog (fun _ _=>1) 28=some HY.raw:=by kernel_rfl
def zZ:LSO:=[Az 3 0,Ak 6,Ab 7 0]
def zY:List (ak×Kd) :=
 [BA 12 2 3 0 1,Ay 13 1,od 14 (.call 59 [(tm 13)]) .eff]
def tM:List ak :=
 [⟨(some 15),(.build [(.sl [] 0 (some 0)),(.sl [] 0 (some 0)),(.sl [] 0 (some 0))] [(0,(2,(tm 12))),(2,(1,(tm 14)))]),none⟩,⟨(some 16),(.box (tm 15)),none⟩,
 ⟨(some 8),(.mv (tm 16)),none⟩]
def zX:LSO:=[Aa 17 2,Ah 18 17,Ab 19 0]
def zW:LSO:=[Ai 20 19 18]
def zV:LSO:=[Aj 21 3 17 19,An 22 3 21,o1 10 (.alloc [(.int .i64 0),(.str []),(.sl [] 0 (some 0))]),Ap 3 10 22]
def zU:LSO:=[Aa 23 8,An 24 3 10,Am 25 60 23 24,Aa 11 25]
def zT:LSO:=[Aa 26 11,AH 27 26 0]
def zS:LSO:=[Aa 28 11,Ak 6,Aa 7 28]
def zR:LSO:=[Af 29 19 1,Aa 19 29]
def zQ:LSO:=[Aa 30 8,AJ 31 30,Ad 32 2 31,Ac 33 1 32,Aa 6 33,Ab 7 0]
def o9:aV:=⟨34,(.seq (.sreg zZ [])
 (.seq (.dregM zY tM Co)
 (.seq (.seq (.sreg zX [])
 (.block 0 (.loop (.seq (.sreg zW [])
 (.seq (.cond (tm 20) .skip
 (.exit 0))
 (.seq (.block 1 (.seq (.sreg zV Ck)
 (.seq (.sreg zU Cl)
 (.seq (.sreg zT Cj)
 (.cond (tm 27) (.seq (.sreg zS Cp)
 .ret)
 .skip)))))
 (.sreg zR Cj)))))))
 (.seq (.sreg zQ C6)
 .ret)))),[(.tmp 6),(.tmp 7)]⟩
attribute [push_cast] zZ zY tM zX zW zV zU zT zS zR zQ
theorem OK:aX Tryz.prog (fun r i=>if r=1/\i=2 then 3 else 1) 36=some o9.raw:=by kernel_rfl
def vy:LSO:=[Az 2 0,Bh 4,Ag 5]
def vx:LSO:=[An 6 2 2,By 7 6,Aa 8 1,Am 9 75 7 8,Ar 10 9,As 11 9,Ap 4 4 10,Aa 5 11]
def oQ:aV:=⟨12,(.seq (.sreg vy [])
 (.seq (.sreg vx Cq)
 .ret)),[(.cell true 4 4),(.tmp 5)]⟩
attribute [push_cast] vy vx
theorem Ou:aX Tryz.prog (fun _ _=>1) 51=some oQ.raw:=by kernel_rfl
def jR:LSO:=[Az 2 0,Az 3 1,Bh 4,Ag 5]
def jQ:LSO:=[Ad 7 0 2,Ad 8 0 7,Ac 9 1 8,o1 10 (.mkfn 98 [(tm 3)]),Am 11 97 9 10,Aa 6 11]
def jP:LSO:=[Aa 12 6,AA 13 12 0]
def jO:LSO:=[o1 14 (.build [(.str []),(.int .i64 0),(.bool false),(.bool false)] []),Ap 4 4 14,Ag 5]
def jN:LSO:=[Ad 15 0 2,Ad 16 0 15,Ac 17 1 16,Aa 18 6,Aj 19 4 17 18,An 20 4 19,Ap 4 4 20,A0 5]
def gR:aV:=⟨21,(.seq (.sreg jR [])
 (.seq (.sreg jQ Co)
 (.seq (.seq (.sreg jP Cj)
 (.cond (tm 13) (.seq (.sreg jO Cj)
 .ret)
 .skip))
 (.seq (.sreg jN Cq)
 .ret)))),[(.cell true 4 4),(.tmp 5)]⟩
attribute [push_cast] jR jQ jP jO jN
theorem DE:aX Tryz.prog (fun _ _=>1) 75=some gR.raw:=by kernel_rfl
def ir:LSO:=[Az 2 0,Ag 3]
def iq:LSO:=[Ad 4 0 2,Ac 5 1 4,Ac 6 1 1,Am 7 73 5 6,Aa 3 7]
def gp:aV:=⟨8,(.seq (.sreg ir [])
 (.seq (.sreg iq Cm)
 .ret)),[(.tmp 3)]⟩
attribute [push_cast] ir iq
theorem t8:aX Tryz.prog (fun _ _=>1) 98=some gp.raw:=by kernel_rfl
def vl:LSO:=[Ag 4]
def vk:LSO:=[Aa 5 0,Ao 6 25 5,Aa 7 1,Ao 8 25 7,A7 9 6 8,Aa 4 9]
def oN:aV:=⟨10,(.seq (.sreg vl [])
 (.seq (.sreg vk Co)
 .ret)),[(.tmp 4)]⟩
attribute [push_cast] vl vk
theorem Oq:aX Tryz.prog (fun _ _=>1) 73=some oN.raw:=by kernel_rfl
def c8:LSO:=[Ab 4 0]
def cZ:LSO:=[Aa 6 0,Ah 7 6,Ab 8 0]
def cX:LSO:=[Ai 9 8 7]
def cW:LSO:=[Aa 10 8,Aa 5 10]
def cV:LSO:=[Aa 11 1,Aa 12 0,Aa 13 5,Aj 14 4 12 13,An 15 4 14,BB 16 11 15]
def cU:LSO:=[Aa 17 5,Aa 4 17]
def cT:LSO:=[Af 18 8 1,Aa 8 18]
def cS:LSO:=[Ab 4 (-1)]
def cj:aV:=⟨19,(.seq (.sreg c8 [])
 (.seq (.seq (.sreg cZ Cp)
 (.block 0 (.loop (.seq (.sreg cX [])
 (.seq (.cond (tm 9) .skip
 (.exit 0))
 (.seq (.block 1 (.seq (.sreg cW Cj)
 (.seq (.sreg cV Co)
 (.cond (tm 16) (.seq (.sreg cU Cj)
 .ret)
 .skip))))
 (.sreg cT Cj)))))))
 (.seq (.sreg cS [])
 .ret))),[(.tmp 4)]⟩
attribute [push_cast] c8 cZ cX cW cV cU cT cS
theorem gh:aX Tryz.prog (fun _ _=>1) 97=some cj.raw:=by kernel_rfl
def bN:LSO:=[Ab 6 0,Ag 7]
def bM:LSO:=[Aa 12 0,Ah 13 12,Aa 8 13]
def bL:LSO:=[Aa 14 8,Ab 9 0,Aa 10 14]
def bK:LSO:=[Aa 15 9,Aa 16 10,Ai 17 15 16]
def bJ:LSO:=[Aa 18 9,Aa 19 10,AC 20 18 19,o1 21 (.conv .u64 (tm 20)),o1 22 (.bin .shr (tm 21) (.av (.int .u64 1))),Bi 23 22,
 Aa 11 23]
def bI:LSO:=[Aa 24 2,Aa 25 0,Aa 26 11,Aj 27 2 25 26,An 28 2 27,Aa 29 1,o1 30 (.callv (tm 24) [(tm 28),(tm 29)]),AA 31 30 0]
def bH:LSO:=[Aa 32 11,Af 33 32 1,Aa 9 33]
def bG:LSO:=[Aa 34 11,Aa 10 34]
def bF:LSO:=[Aa 35 9,Aa 36 9,Aa 37 8,Ai 38 36 37,Aa 39 38,.grp none 39 true
 [Ae 40 39 2,Ae 41 39 0,Ae 42 39 9,AU 43 39 2 41 42,AX 44 39 2 43,Ae 45 39 1,og 46 39 true (.callv (tm 40) [(tm 44),(tm 45)]),AL 47 39 46 0]
 48 (tm 47),Aa 6 35,Aa 7 48]
def aJ:aV:=⟨49,(.seq (.sreg bN [])
 (.seq (.sreg bM Ck)
 (.seq (.sreg bL Cp)
 (.seq (.block 0 (.loop (.seq (.seq (.sreg bK Ck)
 (.cond (tm 17) .skip
 (.exit 0)))
 (.block 1 (.seq (.sreg bJ Cq)
 (.seq (.sreg bI Cr)
 (.cond (tm 31) (.sreg bH Ck)
 (.sreg bG Cj))))))))
 (.seq (.sreg bF Cu)
 .ret))))),[(.tmp 6),(.tmp 7)]⟩
attribute [push_cast] bN bM bL bK bJ bI bH bG bF
theorem bC:aX Tryz.prog (fun _ _=>1) 68=some aJ.raw:=by kernel_rfl
def cg:LSO:=[Ab 6 0,Ag 7]
def cf:LSO:=[Aa 12 0,Ah 13 12,Aa 8 13]
def ce:LSO:=[Aa 14 8,Ab 9 0,Aa 10 14]
def cc:LSO:=[Aa 15 9,Aa 16 10,Ai 17 15 16]
def b9:LSO:=[Aa 18 9,Aa 19 10,AC 20 18 19,o1 21 (.conv .u64 (tm 20)),o1 22 (.bin .shr (tm 21) (.av (.int .u64 1))),Bi 23 22,
 Aa 11 23]
def b7:LSO:=[Aa 24 2,Aa 25 0,Aa 26 11,Aj 27 1 25 26,Ac 28 1 27,Aa 29 1,o1 30 (.callv (tm 24) [(tm 28),(tm 29)]),AA 31 30 0]
def bZ:LSO:=[Aa 32 11,Af 33 32 1,Aa 9 33]
def bY:LSO:=[Aa 34 11,Aa 10 34]
def bX:LSO:=[Aa 35 9,Aa 36 9,Aa 37 8,Ai 38 36 37,Aa 39 38,.grp none 39 true
 [Ae 40 39 2,Ae 41 39 0,Ae 42 39 9,AU 43 39 1 41 42,A3 44 39 1 43,Ae 45 39 1,og 46 39 true (.callv (tm 40) [(tm 44),(tm 45)]),AL 47 39 46 0]
 48 (tm 47),Aa 6 35,Aa 7 48]
def aT:aV:=⟨49,(.seq (.sreg cg [])
 (.seq (.sreg cf Ck)
 (.seq (.sreg ce Cp)
 (.seq (.block 0 (.loop (.seq (.seq (.sreg cc Ck)
 (.cond (tm 17) .skip
 (.exit 0)))
 (.block 1 (.seq (.sreg b9 Cq)
 (.seq (.sreg b7 Cr)
 (.cond (tm 31) (.sreg bZ Ck)
 (.sreg bY Cj))))))))
 (.seq (.sreg bX Cu)
 .ret))))),[(.tmp 6),(.tmp 7)]⟩
attribute [push_cast] cg cf ce cc b9 b7 bZ bY bX
theorem bU:aX Tryz.prog (fun _ _=>1) 83=some aT.raw:=by kernel_rfl
def dU:LSO:=[Ak 6]
def dT:LSO:=[Aa 10 0,Aa 11 1,Bj 12 10 11]
def dS:LSO:=[Aa 13 2,Ah 14 13,Aa 7 14]
def dR:LSO:=[Aa 15 7,Au 16 15 0]
def dQ:LSO:=[Aa 17 0,Aa 6 17]
def dP:LSO:=[Aa 18 0,Ah 19 18,Aa 8 19]
def dO:LSO:=[Aa 20 1,Aa 21 8,A7 22 20 21]
def dN:LSO:=[Aa 23 0,Aa 24 2,o1 25 (.app 2 2 40 [(.str []),(.sl [] 0 (some 0))] (tm 23) (tm 24)),Aa 6 25]
def dM:LSO:=[Aa 26 8,Aa 27 7,AC 28 26 27,Aa 29 0,o1 30 (.cap (tm 29)),o1 31 (.bin .gtr (tm 28) (tm 30))]
def dL:LSO:=[Aa 32 0,Aa 33 1,Bz 34 32 33,Aa 35 8,Aa 36 7,AC 37 35 36,Aa 38 1,o1 39 (.bin .sub (tm 37) (tm 38)),
 o1 40 (.appz 2 40 [(.str []),(.sl [] 0 (some 0))] (tm 34) (tm 39)),Aa 9 40]
def dy:LSO:=[Aa 41 9,Aa 42 1,Bj 43 41 42,Aa 44 2,o1 45 (.copy 2 (tm 43) (tm 44))]
def dx:List (ak×Kd) :=
 [Ay 46 9,Ay 47 1,Ay 48 7,B0 49 47 48,B1 50 46 49 0 0,Ay 51 0,Ay 52 1,B1 53 51 52 0 0]
def dh:List ak :=
 [⟨(some 54),(.copy 2 (tm 50) (tm 53)),none⟩]
def dw:LSO:=[Aa 55 9,Aa 6 55]
def dv:LSO:=[Aa 56 0,Aa 57 8,Aa 58 7,AC 59 57 58,Bz 60 56 59,Aa 0 60]
def du:LSO:=[Aa 61 2,Aa 62 0,Aa 63 1,Aa 64 7,AC 65 63 64,Bj 66 62 65,Am 67 137 61 66,Aw 68 67]
def dt:List (ak×Kd) :=
 [Ay 69 0,Ay 70 1,Ay 71 7,B0 72 70 71,B1 73 69 72 0 0,Ay 74 0,Ay 75 1,B1 76 74 75 0 0]
def df:List ak :=
 [⟨(some 77),(.copy 2 (tm 73) (tm 76)),none⟩]
def dq:LSO:=[Aa 78 0,Aa 79 1,Bj 80 78 79,Aa 81 2,o1 82 (.copy 2 (tm 80) (tm 81))]
def dp:LSO:=[Aa 83 0,Aa 6 83]
def dm:LSO:=[Aa 84 0,Aa 85 8,Bj 86 84 85,Aa 87 2,o1 88 (.copy 2 (tm 86) (tm 87))]
def dl:LSO:=[Aa 89 0,Aa 90 1,Bj 91 89 90,Aa 92 7,Am 93 138 91 92]
def dk:LSO:=[Aa 94 0,Aa 6 94]
def bn:aV:=⟨95,(.seq (.sreg dU [])
 (.seq (.sreg dT CC)
 (.seq (.sreg dS Ck)
 (.seq (.seq (.sreg dR Cj)
 (.cond (tm 16) (.seq (.sreg dQ Cj)
 .ret)
 .skip))
 (.seq (.sreg dP Ck)
 (.seq (.seq (.sreg dO Ck)
 (.cond (tm 22) (.seq (.sreg dN Cl)
 .ret)
 .skip))
 (.seq (.seq (.sreg dM Co)
 (.cond (tm 31) (.seq (.sreg dL Cv)
 (.seq (.sreg dy Cs)
 (.seq (.dregM dx dh CD)
 (.seq (.sreg dw Cj)
 .ret))))
 .skip))
 (.seq (.sreg dv Co)
 (.seq (.seq (.sreg du Cr)
 (.cond (tm 68) (.seq (.dregM dt df CD)
 (.seq (.sreg dq Cs)
 (.seq (.sreg dp Cj)
 .ret)))
 .skip))
 (.seq (.sreg dm Cs)
 (.seq (.sreg dl Cs)
 (.seq (.sreg dk Cj)
 .ret)))))))))))),[(.tmp 6)]⟩
attribute [push_cast] dU dT dS dR dQ dP dO dN dM dL dy dx dh dw dv du dt df dq dp dm dl dk
theorem dI:aX Tryz.prog (fun r i=>if r=7/\i=2 then 2 else 1) 108=some bn.raw:=by kernel_rfl
def fe:LSO:=[Ak 6]
def fc:LSO:=[Aa 10 0,Aa 11 1,Bp 12 10 11]
def fa:LSO:=[Aa 13 2,Ah 14 13,Aa 7 14]
def eZ:LSO:=[Aa 15 7,Au 16 15 0]
def eY:LSO:=[Aa 17 0,Aa 6 17]
def eX:LSO:=[Aa 18 0,Ah 19 18,Aa 8 19]
def eW:LSO:=[Aa 20 1,Aa 21 8,A7 22 20 21]
def eV:LSO:=[Aa 23 0,Aa 24 2,BQ 25 23 24,Aa 6 25]
def eU:LSO:=[Aa 26 8,Aa 27 7,AC 28 26 27,Aa 29 0,o1 30 (.cap (tm 29)),o1 31 (.bin .gtr (tm 28) (tm 30))]
def eT:LSO:=[Aa 32 0,Aa 33 1,BR 34 32 33,Aa 35 8,Aa 36 7,AC 37 35 36,Aa 38 1,o1 39 (.bin .sub (tm 37) (tm 38)),
 o1 40 (.appz 1 16 [(.str [])] (tm 34) (tm 39)),Aa 9 40]
def eN:LSO:=[Aa 41 9,Aa 42 1,Bp 43 41 42,Aa 44 2,o1 45 (.copy 1 (tm 43) (tm 44))]
def eM:List (ak×Kd) :=
 [Ay 46 9,Ay 47 1,Ay 48 7,B0 49 47 48,B3 50 46 49 0 0,Ay 51 0,Ay 52 1,B3 53 51 52 0 0]
def eu:List ak :=
 [⟨(some 54),(.copy 1 (tm 50) (tm 53)),none⟩]
def eL:LSO:=[Aa 55 9,Aa 6 55]
def eK:LSO:=[Aa 56 0,Aa 57 8,Aa 58 7,AC 59 57 58,BR 60 56 59,Aa 0 60]
def eJ:LSO:=[Aa 61 2,Aa 62 0,Aa 63 1,Aa 64 7,AC 65 63 64,Bp 66 62 65,Am 67 135 61 66,Aw 68 67]
def eI:List (ak×Kd) :=
 [Ay 69 0,Ay 70 1,Ay 71 7,B0 72 70 71,B3 73 69 72 0 0,Ay 74 0,Ay 75 1,B3 76 74 75 0 0]
def er:List ak :=
 [⟨(some 77),(.copy 1 (tm 73) (tm 76)),none⟩]
def eH:LSO:=[Aa 78 0,Aa 79 1,Bp 80 78 79,Aa 81 2,o1 82 (.copy 1 (tm 80) (tm 81))]
def eG:LSO:=[Aa 83 0,Aa 6 83]
def eF:LSO:=[Aa 84 0,Aa 85 8,Bp 86 84 85,Aa 87 2,o1 88 (.copy 1 (tm 86) (tm 87))]
def eE:LSO:=[Aa 89 0,Aa 90 1,Bp 91 89 90,Aa 92 7,Am 93 136 91 92]
def eD:LSO:=[Aa 94 0,Aa 6 94]
def bB:aV:=⟨95,(.seq (.sreg fe [])
 (.seq (.sreg fc CC)
 (.seq (.sreg fa Ck)
 (.seq (.seq (.sreg eZ Cj)
 (.cond (tm 16) (.seq (.sreg eY Cj)
 .ret)
 .skip))
 (.seq (.sreg eX Ck)
 (.seq (.seq (.sreg eW Ck)
 (.cond (tm 22) (.seq (.sreg eV Cl)
 .ret)
 .skip))
 (.seq (.seq (.sreg eU Co)
 (.cond (tm 31) (.seq (.sreg eT Cv)
 (.seq (.sreg eN Cs)
 (.seq (.dregM eM eu CD)
 (.seq (.sreg eL Cj)
 .ret))))
 .skip))
 (.seq (.sreg eK Co)
 (.seq (.seq (.sreg eJ Cr)
 (.cond (tm 68) (.seq (.dregM eI er CD)
 (.seq (.sreg eH Cs)
 (.seq (.sreg eG Cj)
 .ret)))
 .skip))
 (.seq (.sreg eF Cs)
 (.seq (.sreg eE Cs)
 (.seq (.sreg eD Cj)
 .ret)))))))))))),[(.tmp 6)]⟩
attribute [push_cast] fe fc fa eZ eY eX eW eV eU eT eN eM eu eL eK eJ eI er eH eG eF eE eD
theorem eQ:aX Tryz.prog (fun r i=>if r=7/\i=2 then 2 else 1) 107=some bB.raw:=by kernel_rfl
def d8:LSO:=[Ak 6]
def d7:LSO:=[Aa 8 0,Aa 9 1,Aa 10 2,Aa 11 0,Ah 12 11,o1 13 (.slV 2 (tm 8) (some (tm 9)) (some (tm 10)) (some (tm 12)))]
def d6:LSO:=[Aa 14 1,Aa 15 2,A7 16 14 15]
def dZ:LSO:=[Aa 17 0,Aa 6 17]
def dY:LSO:=[Aa 18 0,Ah 19 18,Aa 7 19]
def dX:List (ak×Kd) :=
 [Ay 20 0,Ay 21 1,od 22 (.slV 2 (tm 20) none (some (tm 21)) none) (.read 0 0),Ay 23 0,Ay 24 2,B1 25 23 24 0 0]
def dH:List ak :=
 [⟨(some 26),(.app 4 2 40 [(.str []),(.sl [] 0 (some 0))] (tm 22) (tm 25)),none⟩,⟨(some 0),(.mv (tm 26)),none⟩]
def dW:LSO:=[Aa 27 0,Aa 28 0,Ah 29 28,Aa 30 7,o1 31 (.slV 2 (tm 27) (some (tm 29)) (some (tm 30)) none),
 o0 (.clear 2 [(.str []),(.sl [] 0 (some 0))] (tm 31))]
def dV:LSO:=[Aa 32 0,Aa 6 32]
def cA:aV:=⟨33,(.seq (.sreg d8 [])
 (.seq (.sreg d7 CB)
 (.seq (.seq (.sreg d6 Ck)
 (.cond (tm 16) (.seq (.sreg dZ Cj)
 .ret)
 .skip))
 (.seq (.sreg dY Ck)
 (.seq (.dregM dX dH Cr)
 (.seq (.sreg dW Cs)
 (.seq (.sreg dV Cj)
 .ret))))))),[(.tmp 6)]⟩
attribute [push_cast] d8 d7 d6 dZ dY dX dH dW dV
theorem gD:aX Tryz.prog (fun r i=>if r=5/\i=6 then 4 else 1) 87=some cA.raw:=by kernel_rfl
def fo:LSO:=[Ak 6]
def fm:LSO:=[Aa 8 0,Aa 9 1,Aa 10 2,Aa 11 0,Ah 12 11,o1 13 (.slV 1 (tm 8) (some (tm 9)) (some (tm 10)) (some (tm 12)))]
def fk:LSO:=[Aa 14 1,Aa 15 2,A7 16 14 15]
def fj:LSO:=[Aa 17 0,Aa 6 17]
def fi:LSO:=[Aa 18 0,Ah 19 18,Aa 7 19]
def fh:List (ak×Kd) :=
 [Ay 20 0,Ay 21 1,od 22 (.slV 1 (tm 20) none (some (tm 21)) none) (.read 0 0),Ay 23 0,Ay 24 2,B3 25 23 24 0 0]
def eO:List ak :=
 [⟨(some 26),(.app 4 1 16 [(.str [])] (tm 22) (tm 25)),none⟩,⟨(some 0),(.mv (tm 26)),none⟩]
def fg:LSO:=[Aa 27 0,Aa 28 0,Ah 29 28,Aa 30 7,o1 31 (.slV 1 (tm 27) (some (tm 29)) (some (tm 30)) none),o0 (.clear 1 [(.str [])] (tm 31))]
def ff:LSO:=[Aa 32 0,Aa 6 32]
def db:aV:=⟨33,(.seq (.sreg fo [])
 (.seq (.sreg fm CB)
 (.seq (.seq (.sreg fk Ck)
 (.cond (tm 16) (.seq (.sreg fj Cj)
 .ret)
 .skip))
 (.seq (.sreg fi Ck)
 (.seq (.dregM fh eO Cr)
 (.seq (.sreg fg Cs)
 (.seq (.sreg ff Cj)
 .ret))))))),[(.tmp 6)]⟩
attribute [push_cast] fo fm fk fj fi fh eO fg ff
theorem iB:aX Tryz.prog (fun r i=>if r=5/\i=6 then 4 else 1) 106=some db.raw:=by kernel_rfl
def fF:LSO:=[Ak 2]
def fE:LSO:=[Aa 3 0,o1 4 (.slnil false (tm 3))]
def fD:LSO:=[Ak 2]
def fC:LSO:=[o1 5 (.bslice false 1 0 [] []),Aa 6 0,BQ 7 5 6,Aa 2 7]
def aU:aV:=⟨8,(.seq (.sreg fF [])
 (.seq (.seq (.sreg fE Cj)
 (.cond (tm 4) (.seq (.sreg fD [])
 .ret)
 .skip))
 (.seq (.sreg fC Cl)
 .ret))),[(.tmp 2)]⟩
attribute [push_cast] fF fE fD fC
theorem bR:aX Tryz.prog (fun r i=>if r=3/\i=2 then 2 else 1) 46=some aU.raw:=by kernel_rfl
attribute [push_cast] uT gL kX gq HY oQ gR cj aJ aT aU
set_option maxHeartbeats 8000000
set_option maxRecDepth 100000
def Vs (L:List Blk) (C:List AV) (n s:Nat) (v:AV):Prop:=(∃ cap,v=.sl C n cap)\/∃ i cp rest,v=.lsl i 0 n cp s/\L[i]?=some (.cells (C++rest))
def ad5 (f:FuncId) (caps:List AV) (L:List Blk) (el:Nat->AV) (tg:AV) (n:Nat) (c:Nat->Int):Prop:=∀ (h:Nat) (K:AV->List Blk->Prop),h<n->K (.int .i64 (c h)) L->aee f ([el h,tg]++caps) L K
theorem adV {f:FuncId} {caps C:List AV} {n m:Nat} {tg v:AV} {c:Nat->Int} {L:List Blk} (hn:n<=1100000) (hC:C.length=n * 2) (hm:m<=n) (hrow:Vs L C n 2 v) (hf:ad5 f caps L (fun h=>.agg ((C.drop (h * 2)).take 2)) tg n c) (hc:∀ h,h<n->(c h<0↔h<m))
  {K:aef} (h:K (.tup [.int .i64 (m:Nat),.bool (decide (m<n) && decide (c m=0))]) L) :
  aee 68 [v,tg,.func f caps] L K:=by
 replace h:=hid h;replace hf:=hid hf;replace hc:=hid hc;rcases hrow with ⟨cap,rfl⟩|⟨bi,cp,rest,rfl,hL⟩
 ·refine aed bC ?_;refine ai (fun q T' L'=>∃ a b:Nat,q=b - a/\a<=m/\m<=b/\b<=n/\T'=[(10,.int .i64 (b:Int)),(9,.int .i64 (a:Int)),(8,.int .i64 (n:Nat)),(0,.sl C n cap),(1,tg),(2,.func f caps)]/\L=L') (CutS (b:=aeg _)) ⟨0,n,rfl,aej _,hm,aeg _,rfl,rfl⟩ ?_;rintro _ _ L' ⟨a,b,rfl,ham,hmb,hb,rfl,e⟩;subst e;by_cases hlt:a<b
  ·have g1:(a:Int)<(b:Int):=by omega
   obtain ⟨z,hz⟩:∃ z,z=(a+b) / 2:=⟨_,rfl⟩;have g2:IntKind.i64.wrap ((a:Int)+b)=(a:Int)+b:=ad (by omega) (by omega);have g3:IntKind.u64.wrap ((a:Int)+b)=(a:Int)+b:=ug (by omega) (by omega);have g4:Int.fdiv ((a:Int)+b) (2 ^ (min 1 IntKind.u64.bits))=(z:Int):=by
    have:(2:Int) ^ (min 1 IntKind.u64.bits)=2:=by decide
    rw [this,ag0 _ (by omega)];omega
   have g5:IntKind.i64.wrap (z:Int)=z:=ad (by omega) (by omega);have g6:=aec z (by omega);have g8:a<=z/\z<b:=by omega
   have g9:(z:Int)<(n:Int):=by omega
   have hzn:z<n:=by omega
   have hcz:=hc.out z hzn;have e2:z * 2+2<=C.length:=by omega
   replace g8:=hid g8;replace hcz:=hid hcz;replace hC:=hid hC;clear hz;refine wk ?_;refine hf.out z _ hzn ?_;refine sk ?_;obtain ⟨w,hw⟩:=aea (c z);rw [hw] at hcz;simp only [hw];by_cases hneg:w<0
   ·have hzm:=hcz.out.1 hneg;clear hcz hw;have hg8:=g8.out;refine wk ?_;exact ag _ _ _ (by omega) (CutL (b:=by simp)) ⟨z+1,b,rfl,hzm,hmb,hb,rfl,rfl⟩
   ·have hzm:m<=z:=by
     rcases aer z m with e|e
     ·exact absurd (hcz.out.2 e) hneg
     ·exact e
    clear hcz hw;have hg8:=g8.out;refine wk ?_;exact ag _ _ _ (by omega) (CutL (b:=by simp)) ⟨a,z,rfl,ham,hzm,by omega,rfl,rfl⟩
  obtain rfl:a=m:=by omega
  obtain rfl:b=a:=by omega
  have g1:¬ (b:Int)<(b:Int):=by omega
  by_cases hbn:b<n
  ·have g2:(b:Int)<(n:Int):=by omega
   have h':=h.out;rw [decide_eq_true hbn,ae7] at h';obtain ⟨w,hw⟩:=aea (c b);rw [hw] at h';replace h':=hid h';have e2:b * 2+2<=C.length:=by omega
   replace hC:=hid hC;have kk1:Hid (∀ {K:aef},K (.int .i64 w) L->aee f (AV.agg ((C.drop (b * 2)).take 2)::tg::caps) L K):=hid fun q=>hf.out b _ hbn (by rw [hw];exact q)
   refine wk ?_;exact ac h'.out
  ·have g2:¬ (b:Int)<(n:Int):=by omega
   have h':=h.out;rw [decide_eq_false hbn,afy] at h';replace h':=hid h';refine wk ?_;exact ac h'.out
 ·refine aed bC ?_;refine ai (fun q T' L'=>∃ a b:Nat,q=b - a/\a<=m/\m<=b/\b<=n/\T'=[(10,.int .i64 (b:Int)),(9,.int .i64 (a:Int)),(8,.int .i64 (n:Nat)),(0,.lsl bi 0 n cp 2),(1,tg),(2,.func f caps)]/\L=L') (CutS (b:=aeg _)) ⟨0,n,rfl,aej _,hm,aeg _,rfl,rfl⟩ ?_;rintro _ _ L' ⟨a,b,rfl,ham,hmb,hb,rfl,e⟩;subst e;by_cases hlt:a<b
  ·have g1:(a:Int)<(b:Int):=by omega
   obtain ⟨z,hz⟩:∃ z,z=(a+b) / 2:=⟨_,rfl⟩;have g2:IntKind.i64.wrap ((a:Int)+b)=(a:Int)+b:=ad (by omega) (by omega);have g3:IntKind.u64.wrap ((a:Int)+b)=(a:Int)+b:=ug (by omega) (by omega);have g4:Int.fdiv ((a:Int)+b) (2 ^ (min 1 IntKind.u64.bits))=(z:Int):=by
    have:(2:Int) ^ (min 1 IntKind.u64.bits)=2:=by decide
    rw [this,ag0 _ (by omega)];omega
   have g5:IntKind.i64.wrap (z:Int)=z:=ad (by omega) (by omega);have g6:=aec z (by omega);have g8:a<=z/\z<b:=by omega
   have g9:(z:Int)<(n:Int):=by omega
   have hzn:z<n:=by omega
   have hcz:=hc.out z hzn;have e1:((C++rest).drop (z * 2)).take 2=(C.drop (z * 2)).take 2:=by
    rw [afA (by omega),aeY (by simp;omega)]
   have e2:z * 2+2<=C.length+rest.length:=by omega
   replace g8:=hid g8;replace hcz:=hid hcz;replace hC:=hid hC;clear hz;refine wk ?_;refine hf.out z _ hzn ?_;refine sk ?_;obtain ⟨w,hw⟩:=aea (c z);rw [hw] at hcz;simp only [hw];by_cases hneg:w<0
   ·have hzm:=hcz.out.1 hneg;clear hcz hw;have hg8:=g8.out;refine wk ?_;exact ag _ _ _ (by omega) (CutL (b:=by simp)) ⟨z+1,b,rfl,hzm,hmb,hb,rfl,rfl⟩
   ·have hzm:m<=z:=by
     rcases aer z m with e|e
     ·exact absurd (hcz.out.2 e) hneg
     ·exact e
    clear hcz hw;have hg8:=g8.out;refine wk ?_;exact ag _ _ _ (by omega) (CutL (b:=by simp)) ⟨a,z,rfl,ham,hzm,by omega,rfl,rfl⟩
  obtain rfl:a=m:=by omega
  obtain rfl:b=a:=by omega
  have g1:¬ (b:Int)<(b:Int):=by omega
  by_cases hbn:b<n
  ·have g2:(b:Int)<(n:Int):=by omega
   have h':=h.out;rw [decide_eq_true hbn,ae7] at h';obtain ⟨w,hw⟩:=aea (c b);rw [hw] at h';replace h':=hid h';have e1:((C++rest).drop (b * 2)).take 2=(C.drop (b * 2)).take 2:=by
    rw [afA (by omega),aeY (by simp;omega)]
   have e2:b * 2+2<=C.length+rest.length:=by omega
   replace hC:=hid hC;have kk1:Hid (∀ {K:aef},K (.int .i64 w) L->aee f (AV.agg ((C.drop (b * 2)).take 2)::tg::caps) L K):=hid fun q=>hf.out b _ hbn (by rw [hw];exact q)
   refine wk ?_;exact ac h'.out
  ·have g2:¬ (b:Int)<(n:Int):=by omega
   have h':=h.out;rw [decide_eq_false hbn,afy] at h';replace h':=hid h';refine wk ?_;exact ac h'.out
theorem adU {f:FuncId} {caps C:List AV} {n m:Nat} {tg v:AV} {c:Nat->Int} {L:List Blk} (hn:n<=1100000) (hC:C.length=n * 1) (hm:m<=n) (hrow:Vs L C n 1 v) (hf:ad5 f caps L (fun h=>C.getD h .undef) tg n c) (hc:∀ h,h<n->(c h<0↔h<m))
  {K:aef} (h:K (.tup [.int .i64 (m:Nat),.bool (decide (m<n) && decide (c m=0))]) L) :
  aee 83 [v,tg,.func f caps] L K:=by
 replace h:=hid h;replace hf:=hid hf;replace hc:=hid hc;rcases hrow with ⟨cap,rfl⟩|⟨bi,cp,rest,rfl,hL⟩
 ·refine aed bU ?_;refine ai (fun q T' L'=>∃ a b:Nat,q=b - a/\a<=m/\m<=b/\b<=n/\T'=[(10,.int .i64 (b:Int)),(9,.int .i64 (a:Int)),(8,.int .i64 (n:Nat)),(0,.sl C n cap),(1,tg),(2,.func f caps)]/\L=L') (CutS (b:=aeg _)) ⟨0,n,rfl,aej _,hm,aeg _,rfl,rfl⟩ ?_;rintro _ _ L' ⟨a,b,rfl,ham,hmb,hb,rfl,e⟩;subst e;by_cases hlt:a<b
  ·have g1:(a:Int)<(b:Int):=by omega
   obtain ⟨z,hz⟩:∃ z,z=(a+b) / 2:=⟨_,rfl⟩;have g2:IntKind.i64.wrap ((a:Int)+b)=(a:Int)+b:=ad (by omega) (by omega);have g3:IntKind.u64.wrap ((a:Int)+b)=(a:Int)+b:=ug (by omega) (by omega);have g4:Int.fdiv ((a:Int)+b) (2 ^ (min 1 IntKind.u64.bits))=(z:Int):=by
    have:(2:Int) ^ (min 1 IntKind.u64.bits)=2:=by decide
    rw [this,ag0 _ (by omega)];omega
   have g5:IntKind.i64.wrap (z:Int)=z:=ad (by omega) (by omega);have g6:=aec z (by omega);have g8:a<=z/\z<b:=by omega
   have g9:(z:Int)<(n:Int):=by omega
   have hzn:z<n:=by omega
   have hcz:=hc.out z hzn;have e2:z<C.length:=by omega
   replace g8:=hid g8;replace hcz:=hid hcz;replace hC:=hid hC;clear hz;refine wk ?_;refine hf.out z _ hzn ?_;refine sk ?_;obtain ⟨w,hw⟩:=aea (c z);rw [hw] at hcz;simp only [hw];by_cases hneg:w<0
   ·have hzm:=hcz.out.1 hneg;clear hcz hw;have hg8:=g8.out;refine wk ?_;exact ag _ _ _ (by omega) (CutL (b:=by simp)) ⟨z+1,b,rfl,hzm,hmb,hb,rfl,rfl⟩
   ·have hzm:m<=z:=by
     rcases aer z m with e|e
     ·exact absurd (hcz.out.2 e) hneg
     ·exact e
    clear hcz hw;have hg8:=g8.out;refine wk ?_;exact ag _ _ _ (by omega) (CutL (b:=by simp)) ⟨a,z,rfl,ham,hzm,by omega,rfl,rfl⟩
  obtain rfl:a=m:=by omega
  obtain rfl:b=a:=by omega
  have g1:¬ (b:Int)<(b:Int):=by omega
  by_cases hbn:b<n
  ·have g2:(b:Int)<(n:Int):=by omega
   have h':=h.out;rw [decide_eq_true hbn,ae7] at h';obtain ⟨w,hw⟩:=aea (c b);rw [hw] at h';replace h':=hid h';have e2:b<C.length:=by omega
   replace hC:=hid hC;have kk1:Hid (∀ {K:aef},K (.int .i64 w) L->aee f (C.getD b .undef::tg::caps) L K):=hid fun q=>hf.out b _ hbn (by rw [hw];exact q)
   refine wk ?_;exact ac h'.out
  ·have g2:¬ (b:Int)<(n:Int):=by omega
   have h':=h.out;rw [decide_eq_false hbn,afy] at h';replace h':=hid h';refine wk ?_;exact ac h'.out
 ·refine aed bU ?_;refine ai (fun q T' L'=>∃ a b:Nat,q=b - a/\a<=m/\m<=b/\b<=n/\T'=[(10,.int .i64 (b:Int)),(9,.int .i64 (a:Int)),(8,.int .i64 (n:Nat)),(0,.lsl bi 0 n cp 1),(1,tg),(2,.func f caps)]/\L=L') (CutS (b:=aeg _)) ⟨0,n,rfl,aej _,hm,aeg _,rfl,rfl⟩ ?_;rintro _ _ L' ⟨a,b,rfl,ham,hmb,hb,rfl,e⟩;subst e;by_cases hlt:a<b
  ·have g1:(a:Int)<(b:Int):=by omega
   obtain ⟨z,hz⟩:∃ z,z=(a+b) / 2:=⟨_,rfl⟩;have g2:IntKind.i64.wrap ((a:Int)+b)=(a:Int)+b:=ad (by omega) (by omega);have g3:IntKind.u64.wrap ((a:Int)+b)=(a:Int)+b:=ug (by omega) (by omega);have g4:Int.fdiv ((a:Int)+b) (2 ^ (min 1 IntKind.u64.bits))=(z:Int):=by
    have:(2:Int) ^ (min 1 IntKind.u64.bits)=2:=by decide
    rw [this,ag0 _ (by omega)];omega
   have g5:IntKind.i64.wrap (z:Int)=z:=ad (by omega) (by omega);have g6:=aec z (by omega);have g8:a<=z/\z<b:=by omega
   have g9:(z:Int)<(n:Int):=by omega
   have hzn:z<n:=by omega
   have hcz:=hc.out z hzn;have e1:(C++rest).getD z .undef=C.getD z .undef:=by
    rw [aew,aem (by omega)];rfl
   have e2:z<C.length+rest.length:=by omega
   replace g8:=hid g8;replace hcz:=hid hcz;replace hC:=hid hC;clear hz;refine wk ?_;refine hf.out z _ hzn ?_;refine sk ?_;obtain ⟨w,hw⟩:=aea (c z);rw [hw] at hcz;simp only [hw];by_cases hneg:w<0
   ·have hzm:=hcz.out.1 hneg;clear hcz hw;have hg8:=g8.out;refine wk ?_;exact ag _ _ _ (by omega) (CutL (b:=by simp)) ⟨z+1,b,rfl,hzm,hmb,hb,rfl,rfl⟩
   ·have hzm:m<=z:=by
     rcases aer z m with e|e
     ·exact absurd (hcz.out.2 e) hneg
     ·exact e
    clear hcz hw;have hg8:=g8.out;refine wk ?_;exact ag _ _ _ (by omega) (CutL (b:=by simp)) ⟨a,z,rfl,ham,hzm,by omega,rfl,rfl⟩
  obtain rfl:a=m:=by omega
  obtain rfl:b=a:=by omega
  have g1:¬ (b:Int)<(b:Int):=by omega
  by_cases hbn:b<n
  ·have g2:(b:Int)<(n:Int):=by omega
   have h':=h.out;rw [decide_eq_true hbn,ae7] at h';obtain ⟨w,hw⟩:=aea (c b);rw [hw] at h';replace h':=hid h';have e1:(C++rest).getD b .undef=C.getD b .undef:=by
    rw [aew,aem (by omega)];rfl
   have e2:b<C.length+rest.length:=by omega
   replace hC:=hid hC;have kk1:Hid (∀ {K:aef},K (.int .i64 w) L->aee f (C.getD b .undef::tg::caps) L K):=hid fun q=>hf.out b _ hbn (by rw [hw];exact q)
   refine wk ?_;exact ac h'.out
  ·have g2:¬ (b:Int)<(n:Int):=by omega
   have h':=h.out;rw [decide_eq_false hbn,afy] at h';replace h':=hid h';refine wk ?_;exact ac h'.out
variable {L:List Blk} {K:aef}
theorem lT {L:List Blk} {i n:Nat} (h:∀ k∈L,k.refs (fun i=>decide (i<n))=true):∀ k∈L.set i .dead,k.refs (fun i=>decide (i<n))=true:=fun k hk=>by
 rcases List.mem_or_eq_of_mem_set hk with h1|h1
 ·exact h k h1
 ·subst h1;rfl
theorem N3 {L0 L:List Blk} {i off n s:Nat} {cp:Option Nat} {Q:AV->List Blk->Prop} (h:Fin L0 (.lsl i off n none s) L Q):Fin L0 (.lsl i off n cp s) L Q:=fun w0 S0 E0 E w v h0 hn hw hR hv=>by
 refine h w0 S0 E0 E w v h0 hn hw hR ?_;simp only [VR] at hv ⊢;obtain ⟨c,rc,d,h1,h2,h3,h4,_,h6⟩:=hv;exact ⟨c,rc,d,h1,h2,h3,h4,by simp,h6⟩
theorem Oc (z:List AV):∀ n,(de z n).length=n * z.length
 | 0=>by simp [de]
 | n+1=>by rw [de,aeF,Oc z n,agh];omega
theorem Rl {L:List Blk} (h:∀ k∈L,k.refs (fun i=>decide (i<L.length))=true) {i:Nat} {c:List AV} (hL:L[i]?=some (.cells c)):∀ a∈c,a.refs (fun i=>decide (i<L.length))=true :=
 AV.refsL_iff.1 (h _ (aeQ hL))
theorem Yq {cap:Option Nat} (h:K (.sl [] 0 (some 0)) L):aee 46 [.sl [] 0 cap] L K:=by
 refine af bR (by simp [aU]) ?_;simp only [aU,aq]
 repeat' first
  | refine aY ?_
  | (first|refine aO (by kernel_rfl) ?_|refine aA (by kernel_rfl) ?_|refine aB ?_|refine bw ?_|refine a6 (fun _=>?_)|refine ax ?_|refine aR ?_)
    refine sm ?_
  | (first|refine aK (by kernel_rfl) ?_|refine aP ?_|refine aQ ?_|refine bd (aw ?_))
    refine sl ?_
  | exact a7
  | first|apply a8|apply aL|apply ba|apply aM|apply bc|apply aN
  | refine aE ?_
  | first|refine aC rfl ?_|refine aD rfl ?_|refine ap rfl ?_ ?_|refine aG rfl (fun _=>?_) (fun _=>?_)|refine aF rfl (fun _=>?_) (fun _=>?_)
  | ((first|refine ao (fun _=>?_) (fun _=>?_)|refine au (fun _=>?_) (fun _=>?_))<;>try refine sm ?_)
  | refine And.intro trivial ?_
  | refine And.intro (by omega) ?_
  | refine aI rfl (fun _=>?_) (fun _=>?_)
  | refine And.intro ?_ ?_
 all_goals (first|refine ab rfl (Kto h ?_)|refine ac (Kto h ?_)|refine ab (by simp only [AV.refs,AV.refsL, *];rfl) (Kto h ?_)|refine aZ (ab rfl (Kto h ?_))|(trace_state;fail))
 all_goals (first|(simp [*];done)|(simp [*];omega)|(simp [*];intros;omega)|(simp_all [Hid,Hid];done)|(simp_all [Hid,Hid];omega))
theorem Rk {xs:List (List UInt8)} {cap:Option Nat} (h0:xs.length≠0) (hn:xs.length<=1100000) (h:K (.lsl L.length 0 xs.length none 1) (L++[.cells (xs.map AV.str)])) :
  aee 46 [.sl (xs.map AV.str) xs.length cap] L K:=by
 have h1:=NB xs;refine af bR (by simp [aU]) ?_;simp only [aU,aq]
 repeat' first
  | refine aY ?_
  | (first|refine aO (by kernel_rfl) ?_|refine aA (by kernel_rfl) ?_|refine aB ?_|refine bw ?_|refine a6 (fun _=>?_)|refine ax ?_|refine aR ?_)
    refine sm ?_
  | (first|refine aK (by kernel_rfl) ?_|refine aP ?_|refine aQ ?_|refine bd (aw ?_))
    refine sl ?_
  | exact a7
  | first|apply a8|apply aL|apply ba|apply aM|apply bc|apply aN
  | refine aE ?_
  | first|refine aC rfl ?_|refine aD rfl ?_|refine ap rfl ?_ ?_|refine aG rfl (fun _=>?_) (fun _=>?_)|refine aF rfl (fun _=>?_) (fun _=>?_)
  | ((first|refine ao (fun _=>?_) (fun _=>?_)|refine au (fun _=>?_) (fun _=>?_))<;>try refine sm ?_)
  | refine And.intro trivial ?_
  | refine And.intro (by omega) ?_
  | refine aI rfl (fun _=>?_) (fun _=>?_)
  | refine And.intro ?_ ?_
 refine T7 L.length (.cells (xs.map AV.str)) rfl (aeg _) (by simp) (by simp [AV.refs]) (bV _ _) ?_;simpa [AV.ren] using h
theorem abu {l:List AV} {n:Nat} {cap:Option Nat} {i off m s:Nat} {cp:Option Nat} {l2:List AV} (hl:n=0\/l≠[]) (hL:L[i]?=some (.cells l2)) (hpos:0<s) (h:K (.bool false) L) :
  aee 135 [.sl l n cap,.lsl i off m cp s] L K :=
 QM (fn:=Tryz.f135) (tS:=51) (tR:=4) (e:=9) (sz:=1) (by kernel_rfl) (by kernel_rfl) (by kernel_rfl) (by kernel_rfl) (by kernel_rfl) (by kernel_rfl) (by kernel_rfl) hl hL hpos h
theorem abD {x:List UInt8} {cap:Option Nat} {L:List Blk} {K:aef}  (h:K (.lsl L.length 0 1 none 1) (L++[.cells [.str x]])) :
  aee 107 [.sl [] 0 (some 0),.int .i64 0,.sl [.str x] 1 cap] L K:=by
 replace h:=hid h;refine af eQ (by simp [bB]) ?_;simp only [bB,aq]
 repeat' first
  | refine aY ?_
  | (first|refine aO (by kernel_rfl) ?_|refine aA (by kernel_rfl) ?_|refine aB ?_|refine bw ?_|refine a6 (fun _=>?_)|refine ax ?_|refine aR ?_)
    refine sm ?_
  | (first|refine aK (by kernel_rfl) ?_|refine aP ?_|refine aQ ?_|refine bd (aw ?_))
    refine sl ?_
  | exact a7
  | first|apply a8|apply aL|apply ba|apply aM|apply bc|apply aN
  | refine aE ?_
  | first|refine aC rfl ?_|refine aD rfl ?_|refine ap rfl ?_ ?_|refine aG rfl (fun _=>?_) (fun _=>?_)|refine aF rfl (fun _=>?_) (fun _=>?_)
  | ((first|refine ao (fun _=>?_) (fun _=>?_)|refine au (fun _=>?_) (fun _=>?_))<;>try refine sm ?_)
  | refine And.intro trivial ?_
  | refine And.intro (by omega) ?_
  | refine aI rfl (fun _=>?_) (fun _=>?_)
  | refine And.intro ?_ ?_
 exact T7 L.length (.cells [.str x]) rfl (aeg _) (by simp) (by simp [AV.refs]) (by simp [Blk.refs,AV.refsL,AV.refs, *]) (by simpa [AV.ren] using h.out)
theorem acP {C:List AV} {n k:Nat} {x:List UInt8} {i:Nat} {rest:List AV} {cap:Option Nat}  (hn:n<=1100000) (hk:k<=n) (hC:C.length=n) (hone:C.all AV.one=true) (hL:L[i]?=some (.cells (C++rest)))
  (h:∀ rest,K (.lsl L.length 0 (n+1) none 1) (L.set i .dead++[.cells (C.take (k) ++ .str x::C.drop (k)++rest)])) :
  aee 107 [.lsl i 0 n none 1,.int .i64 k,.sl [.str x] 1 cap] L K:=by
 have hi:i<L.length:=(aeh.1 hL).1;have hset:∀ c,(L.set i c)[i]?=some c:=fun c=>by simp [hi]
 have hone':=ael.1 hone;have ho1:∀ j,(C.drop j).all AV.one=true:=fun j=>ael.2 fun a ha=>hone' a (afU ha)
 have ho2:∀ j,(C.take j).all AV.one=true:=fun j=>ael.2 fun a ha=>hone' a (af7 ha)
 replace h:=hid h;replace hone':=hid hone';refine af eQ (by simp [bB]) ?_;simp only [bB,aq];refine Xi fun hrefs=>?_
 have hcr:=Rl hrefs hL;have hcc:∀ a∈C,a.refs (fun i=>decide (i<L.length))=true:=fun a ha=>hcr a (by simp [ha])
 have hcr2:∀ a∈rest,a.refs (fun i=>decide (i<L.length))=true:=fun a ha=>hcr a (by simp [ha])
 replace hcc:=hid hcc;replace hcr2:=hid hcr2;clear hrefs hcr;refine T9 0 rfl fun cp hcp=>?_
 by_cases hke:k=n
 ·subst hke;have g2:List.take (k) (C++rest)=C:=by rw [aeY (by omega),aeV (by omega)]
  have hfin:=h.out [];rw [aeJ,aeV (by omega),afE (by omega)] at hfin;replace hfin:=hid hfin;have hlen:k<=C.length+rest.length:=by omega
  replace hC:=hid hC
  repeat' first
   | refine aY ?_
   | (first|refine aO (by kernel_rfl) ?_|refine aA (by kernel_rfl) ?_|refine aB ?_|refine bw ?_|refine a6 (fun _=>?_)|refine ax ?_|refine aR ?_)
     refine sm ?_
   | (first|refine aK (by kernel_rfl) ?_|refine aP ?_|refine aQ ?_|refine bd (aw ?_))
     refine sl ?_
   | exact a7
   | first|apply a8|apply aL|apply ba|apply aM|apply bc|apply aN
   | refine aE ?_
   | first|refine aC rfl ?_|refine aD rfl ?_|refine ap rfl ?_ ?_|refine aG rfl (fun _=>?_) (fun _=>?_)|refine aF rfl (fun _=>?_) (fun _=>?_)
   | ((first|refine ao (fun _=>?_) (fun _=>?_)|refine au (fun _=>?_) (fun _=>?_))<;>try refine sm ?_)
   | refine And.intro trivial ?_
   | refine And.intro (by omega) ?_
   | refine aI rfl (fun _=>?_) (fun _=>?_)
   | refine And.intro ?_ ?_
  exact ud (L1:=L.set i .dead) L.length (.cells (C++[.str x])) rfl (by simp) lT (aeg _) (by simp) (by simp [AV.refs]) (AV.refsL_iff.2 fun a ha=>by
   simp only [aeo,aex,agB,or_false] at ha;rcases ha with ha|rfl
   ·exact hcc.out a ha
   ·rfl) (by simpa [AV.ren] using hfin.out)
 have g1:¬ (k:Int)=(n:Int):=by omega
 have g2:=aec n (by omega);have g3:=aec k (by omega);have g4:IntKind.i64.wrap ((n:Int)+1 - (k:Int))=(n:Int)+1 - (k:Int):=ad (by omega) (by omega);have g5:((n:Int)+1).toNat=n+1:=by omega
 have g6:((k:Int)+1).toNat=k+1:=by omega
 have g7:((n:Int)+1 - (k:Int)).toNat=n+1 - k:=by omega
 by_cases hroom:n+1<=cp
 ·have g8:¬ (cp:Int)<(n:Int)+1:=by omega
  refine aaO 0 rfl hL (by omega) ?_;simp only [afJ,af9];obtain ⟨R,hR⟩:∃ R,R=rest++List.replicate (cp - (C++rest).length) AV.undef:=⟨_,rfl⟩;rw [aeu,<- hR];have hRl:cp<=n+R.length:=by rw [hR];simp;omega
  have hRr:∀ a∈R,a.refs (fun i=>decide (i<L.length))=true:=fun a ha=>by
   rw [hR,aeo] at ha;rcases ha with h|h
   ·exact hcr2.out a h
   ·obtain ⟨_,rfl⟩:=List.mem_replicate.1 h;rfl
  replace hRr:=hid hRr;clear hR;have gm:min (n+1 - k) (n+1 - (k+1))=n - k:=by omega
  have gm2:min 1 (n+1 - k)=1:=by omega
  have hA:List.take ((n - k)) (List.take ((n+1 - k)) (List.drop (k) (C++R)))=C.drop (k):=by
   rw [af8,afA (by omega),aeY (by simp;omega),aeV (by simp;omega)]
  have hB:∀ Z,List.take (k) (List.take ((k+1)) (C++R)++Z)=C.take (k):=fun Z=>by
   rw [aeY (by simp;omega),af8,Nat.min_eq_left (by omega),aeY (by omega)]
  have hC1:∀ Z,List.drop ((k+1)) (List.take ((k+1)) (C++R)++Z)=Z:=fun Z=>by
   have:(List.take ((k+1)) (C++R)).length=(k+1):=by simp;omega
   rw [afA (by omega),ag7 (by omega)];simp
  have hfin:=h.out (List.drop ((k+1)+(n - k)) (C++R));have hrf:∀ a∈C.take (k) ++ .str x::(C.drop (k)++List.drop ((k+1)+(n - k)) (C++R)),a.refs (fun i=>decide (i<L.length))=true:=fun a ha=>by
   simp only [aeo,aex] at ha;rcases ha with ha|rfl|ha|ha
   ·exact hcc.out a (af7 ha)
   ·rfl
   ·exact hcc.out a (afU ha)
   ·have:=afU ha;rcases aeo.1 this with h1|h1
    ·exact hcc.out a h1
    ·exact hRr.out a h1
  replace hrf:=hid hrf;rw [aeu,aeT] at hfin;replace hfin:=hid hfin
  repeat' first
   | refine aY ?_
   | (first|refine aO (by kernel_rfl) ?_|refine aA (by kernel_rfl) ?_|refine aB ?_|refine bw ?_|refine a6 (fun _=>?_)|refine ax ?_|refine aR ?_|refine abu (.inr (by simp)) (hset _) (by omega) ?_)
     simp (config:={ maxSteps:=2000000 }) only [afp,afM,afu,Kon,push_cast,reduceIte,Nat.reduceEqDiff,Nat.reduceAdd,Nat.reduceMul,Nat.reduceSub,Nat.reduceLT,Nat.reduceLeDiff,Int.reduceLT,Int.reduceLE,Int.reduceAdd,Int.reduceSub,Int.reduceNeg,Int.reduceToNat,Int.reduceEq,reduceCtorEq, *]
   | (first|refine aK (by kernel_rfl) ?_|refine aP ?_|refine aQ ?_|refine bd (aw ?_))
     refine sl ?_
   | exact a7
   | first|apply a8|apply aL|apply ba|apply aM|apply bc|apply aN
   | refine aE ?_
   | first|refine aC rfl ?_|refine aD rfl ?_|refine ap rfl ?_ ?_|refine aG rfl (fun _=>?_) (fun _=>?_)|refine aF rfl (fun _=>?_) (fun _=>?_)
   | ((first|refine ao (fun _=>?_) (fun _=>?_)|refine au (fun _=>?_) (fun _=>?_))<;>try simp (config:={ maxSteps:=2000000 }) only [afp,afM,afu,Kon,push_cast,reduceIte,Nat.reduceEqDiff,Nat.reduceAdd,Nat.reduceMul,Nat.reduceSub,Nat.reduceLT,Nat.reduceLeDiff,Int.reduceLT,Int.reduceLE,Int.reduceAdd,Int.reduceSub,Int.reduceNeg,Int.reduceToNat,Int.reduceEq,reduceCtorEq, *])
   | refine And.intro trivial ?_
   | refine And.intro (by omega) ?_
   | refine aI rfl (fun _=>?_) (fun _=>?_)
   | refine And.intro ?_ ?_
  refine N3 (aaF (hset _) ?_);rw [afp];refine ud (L1:=L.set i .dead) (L.set i .dead).length (.cells (C.take (k) ++ .str x::(C.drop (k)++List.drop ((k+1)+(n - k)) (C++R)))) rfl (by simp) lT (by simp) (by simp) (by simp [AV.refs]) (AV.refsL_iff.2 hrf.out) ?_;simpa [AV.ren] using hfin.out
 ·have g8:(cp:Int)<(n:Int)+1:=by omega
  have g9:k+(n+1 - k)=n+1:=by omega
  have g10:((k:Int)+((n+1 - k:Nat):Int)).toNat - k=n+1 - k:=by omega
  have gm2:min 1 (n+1 - k)=1:=by omega
  have gm3:min (n - k) (n+1 - (k+1))=n - k:=by omega
  obtain ⟨ZZ,hZZ⟩:=aea (de [.str []] (n+1 - k));have hZl:ZZ.length=(n+1 - k):=by rw [<- hZZ,Oc];simp
  have hLX:∀ X:List Blk,(L++X)[i]?=some (.cells (C++rest)):=fun X=>by rw [aem hi];exact hL
  have hT:∀ Z,List.take (k) (List.take (k) (C++rest)++Z)=C.take (k):=fun Z=>by
   rw [aeY (by simp;omega),af8,Nat.min_self,aeY (by omega)]
  have hT2:∀ Z,List.take ((k+1)) (C.take (k) ++ .str x::Z)=C.take (k)++[.str x]:=fun Z=>by
   have:(C.take (k)).length=k:=by simp;omega
   rw [show C.take (k) ++ .str x::Z=(C.take (k)++[.str x])++Z by simp,aeY (by simp;omega),aeV (by simp;omega)]
  have hA:List.take ((n - k)) (List.take ((n - k)) (List.drop (k) (C++rest)))=C.drop (k):=by
   rw [af8,Nat.min_self,afA (by omega),aeY (by simp;omega),aeV (by simp;omega)]
  have hD2:List.drop ((k+1)+(n - k)) (C.take (k) ++ .str x::List.drop ((k+1)) (List.take (k) (C++rest)++ZZ))=[]:=afE (by simp;omega);have hfin:=h.out [];rw [aeJ] at hfin;have hrf:∀ a∈C.take (k) ++ .str x::C.drop (k),a.refs (fun i=>decide (i<L.length))=true:=fun a ha=>by
   simp only [aeo,aex] at ha;rcases ha with ha|rfl|ha
   ·exact hcc.out a (af7 ha)
   ·rfl
   ·exact hcc.out a (afU ha)
  replace hrf:=hid hrf;replace hfin:=hid hfin
  repeat' first
   | refine aY ?_
   | (first|refine aO (by kernel_rfl) ?_|refine aA (by kernel_rfl) ?_|refine aB ?_|refine bw ?_|refine a6 (fun _=>?_)|refine ax ?_|refine aR ?_)
     simp (config:={ maxSteps:=2000000 }) only [afp,afM,afu,Kon,push_cast,reduceIte,Nat.reduceEqDiff,Nat.reduceAdd,Nat.reduceMul,Nat.reduceSub,Nat.reduceLT,Nat.reduceLeDiff,Int.reduceLT,Int.reduceLE,Int.reduceAdd,Int.reduceSub,Int.reduceNeg,Int.reduceToNat,Int.reduceEq,reduceCtorEq, *]
   | (first|refine aK (by kernel_rfl) ?_|refine aP ?_|refine aQ ?_|refine bd (aw ?_))
     refine sl ?_
   | exact a7
   | first|apply a8|apply aL|apply ba|apply aM|apply bc|apply aN
   | refine aE ?_
   | first|refine aC rfl ?_|refine aD rfl ?_|refine ap rfl ?_ ?_|refine aG rfl (fun _=>?_) (fun _=>?_)|refine aF rfl (fun _=>?_) (fun _=>?_)
   | ((first|refine ao (fun _=>?_) (fun _=>?_)|refine au (fun _=>?_) (fun _=>?_))<;>try simp (config:={ maxSteps:=2000000 }) only [afp,afM,afu,Kon,push_cast,reduceIte,Nat.reduceEqDiff,Nat.reduceAdd,Nat.reduceMul,Nat.reduceSub,Nat.reduceLT,Nat.reduceLeDiff,Int.reduceLT,Int.reduceLE,Int.reduceAdd,Int.reduceSub,Int.reduceNeg,Int.reduceToNat,Int.reduceEq,reduceCtorEq, *])
   | refine And.intro trivial ?_
   | refine And.intro (by omega) ?_
   | refine aI rfl (fun _=>?_) (fun _=>?_)
   | refine And.intro ?_ ?_
  refine Vv i ?_;rw [agD _ _ hi];refine ud (L1:=L.set i .dead) L.length (.cells (C.take (k) ++ .str x::C.drop (k))) rfl (by simp) lT (by simp) (by simp) (by simp [AV.refs]) (AV.refsL_iff.2 hrf.out) ?_;simpa [AV.ren] using hfin.out
theorem abv {l:List AV} {n:Nat} {cap:Option Nat} {i off m s:Nat} {cp:Option Nat} {l2:List AV} (hl:n=0\/l≠[]) (hL:L[i]?=some (.cells l2)) (hpos:0<s) (h:K (.bool false) L) :
  aee 137 [.sl l n cap,.lsl i off m cp s] L K :=
 QM (fn:=Tryz.f137) (tS:=28) (tR:=4) (e:=53) (sz:=2) (by kernel_rfl) (by kernel_rfl) (by kernel_rfl) (by kernel_rfl) (by kernel_rfl) (by kernel_rfl) (by kernel_rfl) hl hL hpos h
theorem abE {y:List UInt8} {q z:Nat} {cap:Option Nat} (hq:q<L.length) (h:K (.lsl L.length 0 1 none 2) (L++[.cells [.str y,.lsl q 0 z none 1]])) :
  aee 108 [.sl [] 0 (some 0),.int .i64 0,.sl [.str y,.lsl q 0 z none 1] 1 cap] L K:=by
 replace h:=hid h;refine af dI (by simp [bn]) ?_;simp only [bn,aq]
 repeat' first
  | refine aY ?_
  | (first|refine aO (by kernel_rfl) ?_|refine aA (by kernel_rfl) ?_|refine aB ?_|refine bw ?_|refine a6 (fun _=>?_)|refine ax ?_|refine aR ?_)
    refine sm ?_
  | (first|refine aK (by kernel_rfl) ?_|refine aP ?_|refine aQ ?_|refine bd (aw ?_))
    refine sl ?_
  | exact a7
  | first|apply a8|apply aL|apply ba|apply aM|apply bc|apply aN
  | refine aE ?_
  | first|refine aC rfl ?_|refine aD rfl ?_|refine ap rfl ?_ ?_|refine aG rfl (fun _=>?_) (fun _=>?_)|refine aF rfl (fun _=>?_) (fun _=>?_)
  | ((first|refine ao (fun _=>?_) (fun _=>?_)|refine au (fun _=>?_) (fun _=>?_))<;>try refine sm ?_)
  | refine And.intro trivial ?_
  | refine And.intro (by omega) ?_
  | refine aI rfl (fun _=>?_) (fun _=>?_)
  | refine And.intro ?_ ?_
 exact T7 L.length (.cells [.str y,.lsl q 0 z none 1]) rfl (aeg _) (by simp) (by simp [AV.refs]) (by simp [Blk.refs,AV.refsL,AV.refs, *]) (by simpa [AV.ren] using h.out)
theorem acR {C:List AV} {n k:Nat} {y:List UInt8} {q z:Nat} {i:Nat} {rest:List AV} {cap:Option Nat} (hq:q<L.length) (hn:n<=1100000) (hk:k<=n) (hC:C.length=n * 2) (hone:C.all AV.one=true) (hL:L[i]?=some (.cells (C++rest)))
  (h:∀ rest,K (.lsl L.length 0 (n+1) none 2) (L.set i .dead++[.cells (C.take (k * 2) ++ .str y :: .lsl q 0 z none 1::C.drop (k * 2)++rest)])) :
  aee 108 [.lsl i 0 n none 2,.int .i64 k,.sl [.str y,.lsl q 0 z none 1] 1 cap] L K:=by
 have hi:i<L.length:=(aeh.1 hL).1;have hset:∀ c,(L.set i c)[i]?=some c:=fun c=>by simp [hi]
 have hone':=ael.1 hone;have ho1:∀ j,(C.drop j).all AV.one=true:=fun j=>ael.2 fun a ha=>hone' a (afU ha)
 have ho2:∀ j,(C.take j).all AV.one=true:=fun j=>ael.2 fun a ha=>hone' a (af7 ha)
 replace h:=hid h;replace hone':=hid hone';refine af dI (by simp [bn]) ?_;simp only [bn,aq];refine Xi fun hrefs=>?_
 have hcr:=Rl hrefs hL;have hcc:∀ a∈C,a.refs (fun i=>decide (i<L.length))=true:=fun a ha=>hcr a (by simp [ha])
 have hcr2:∀ a∈rest,a.refs (fun i=>decide (i<L.length))=true:=fun a ha=>hcr a (by simp [ha])
 replace hcc:=hid hcc;replace hcr2:=hid hcr2;clear hrefs hcr;refine T9 0 rfl fun cp hcp=>?_
 by_cases hke:k=n
 ·subst hke;have g2:List.take (k * 2) (C++rest)=C:=by rw [aeY (by omega),aeV (by omega)]
  have hfin:=h.out [];rw [aeJ,aeV (by omega),afE (by omega)] at hfin;replace hfin:=hid hfin;have hlen:k * 2<=C.length+rest.length:=by omega
  replace hC:=hid hC
  repeat' first
   | refine aY ?_
   | (first|refine aO (by kernel_rfl) ?_|refine aA (by kernel_rfl) ?_|refine aB ?_|refine bw ?_|refine a6 (fun _=>?_)|refine ax ?_|refine aR ?_)
     refine sm ?_
   | (first|refine aK (by kernel_rfl) ?_|refine aP ?_|refine aQ ?_|refine bd (aw ?_))
     refine sl ?_
   | exact a7
   | first|apply a8|apply aL|apply ba|apply aM|apply bc|apply aN
   | refine aE ?_
   | first|refine aC rfl ?_|refine aD rfl ?_|refine ap rfl ?_ ?_|refine aG rfl (fun _=>?_) (fun _=>?_)|refine aF rfl (fun _=>?_) (fun _=>?_)
   | ((first|refine ao (fun _=>?_) (fun _=>?_)|refine au (fun _=>?_) (fun _=>?_))<;>try refine sm ?_)
   | refine And.intro trivial ?_
   | refine And.intro (by omega) ?_
   | refine aI rfl (fun _=>?_) (fun _=>?_)
   | refine And.intro ?_ ?_
  exact ud (L1:=L.set i .dead) L.length (.cells (C++[.str y,.lsl q 0 z none 1])) rfl (by simp) lT (aeg _) (by simp) (by simp [AV.refs]) (AV.refsL_iff.2 fun a ha=>by
   simp only [aeo,aex,agB,or_false] at ha;rcases ha with ha|rfl|rfl
   ·exact hcc.out a ha
   ·rfl
   ·simpa [AV.refs] using hq) (by simpa [AV.ren] using hfin.out)
 have g1:¬ (k:Int)=(n:Int):=by omega
 have g2:=aec n (by omega);have g3:=aec k (by omega);have g4:IntKind.i64.wrap ((n:Int)+1 - (k:Int))=(n:Int)+1 - (k:Int):=ad (by omega) (by omega);have g5:((n:Int)+1).toNat=n+1:=by omega
 have g6:((k:Int)+1).toNat=k+1:=by omega
 have g7:((n:Int)+1 - (k:Int)).toNat=n+1 - k:=by omega
 by_cases hroom:n+1<=cp
 ·have g8:¬ (cp:Int)<(n:Int)+1:=by omega
  refine aaO 0 rfl hL (by omega) ?_;simp only [afJ,af9];obtain ⟨R,hR⟩:∃ R,R=rest++List.replicate (cp * 2 - (C++rest).length) AV.undef:=⟨_,rfl⟩;rw [aeu,<- hR];have hRl:cp * 2<=n * 2+R.length:=by rw [hR];simp;omega
  have hRr:∀ a∈R,a.refs (fun i=>decide (i<L.length))=true:=fun a ha=>by
   rw [hR,aeo] at ha;rcases ha with h|h
   ·exact hcr2.out a h
   ·obtain ⟨_,rfl⟩:=List.mem_replicate.1 h;rfl
  replace hRr:=hid hRr;clear hR;have gm:min (n+1 - k) (n+1 - (k+1))=n - k:=by omega
  have gm2:min 1 (n+1 - k)=1:=by omega
  have hA:List.take ((n - k) * 2) (List.take ((n+1 - k) * 2) (List.drop (k * 2) (C++R)))=C.drop (k * 2):=by
   rw [af8,afA (by omega),aeY (by simp;omega),aeV (by simp;omega)]
  have hB:∀ Z,List.take (k * 2) (List.take ((k+1) * 2) (C++R)++Z)=C.take (k * 2):=fun Z=>by
   rw [aeY (by simp;omega),af8,Nat.min_eq_left (by omega),aeY (by omega)]
  have hC1:∀ Z,List.drop (k * 2+2) (List.take ((k+1) * 2) (C++R)++Z)=Z:=fun Z=>by
   have:(List.take ((k+1) * 2) (C++R)).length=(k+1) * 2:=by simp;omega
   rw [afA (by omega),ag7 (by omega)];simp
  have hfin:=h.out (List.drop ((k+1) * 2+(n * 2 - k * 2)) (C++R));have hrf:∀ a∈C.take (k * 2) ++ .str y :: .lsl q 0 z none 1::(C.drop (k * 2)++List.drop ((k+1) * 2+(n * 2 - k * 2)) (C++R)),a.refs (fun i=>decide (i<L.length))=true:=fun a ha=>by
   simp only [aeo,aex] at ha;rcases ha with ha|rfl|rfl|ha|ha
   ·exact hcc.out a (af7 ha)
   ·rfl
   ·simpa [AV.refs] using hq
   ·exact hcc.out a (afU ha)
   ·have:=afU ha;rcases aeo.1 this with h1|h1
    ·exact hcc.out a h1
    ·exact hRr.out a h1
  replace hrf:=hid hrf;rw [aeu,aeT,aeT] at hfin;replace hfin:=hid hfin
  repeat' first
   | refine aY ?_
   | (first|refine aO (by kernel_rfl) ?_|refine aA (by kernel_rfl) ?_|refine aB ?_|refine bw ?_|refine a6 (fun _=>?_)|refine ax ?_|refine aR ?_|refine abv (.inr (by simp)) (hset _) (by omega) ?_)
     simp (config:={ maxSteps:=2000000 }) only [afp,afM,afu,Kon,push_cast,reduceIte,Nat.reduceEqDiff,Nat.reduceAdd,Nat.reduceMul,Nat.reduceSub,Nat.reduceLT,Nat.reduceLeDiff,Int.reduceLT,Int.reduceLE,Int.reduceAdd,Int.reduceSub,Int.reduceNeg,Int.reduceToNat,Int.reduceEq,reduceCtorEq, *]
   | (first|refine aK (by kernel_rfl) ?_|refine aP ?_|refine aQ ?_|refine bd (aw ?_))
     refine sl ?_
   | exact a7
   | first|apply a8|apply aL|apply ba|apply aM|apply bc|apply aN
   | refine aE ?_
   | first|refine aC rfl ?_|refine aD rfl ?_|refine ap rfl ?_ ?_|refine aG rfl (fun _=>?_) (fun _=>?_)|refine aF rfl (fun _=>?_) (fun _=>?_)
   | ((first|refine ao (fun _=>?_) (fun _=>?_)|refine au (fun _=>?_) (fun _=>?_))<;>try simp (config:={ maxSteps:=2000000 }) only [afp,afM,afu,Kon,push_cast,reduceIte,Nat.reduceEqDiff,Nat.reduceAdd,Nat.reduceMul,Nat.reduceSub,Nat.reduceLT,Nat.reduceLeDiff,Int.reduceLT,Int.reduceLE,Int.reduceAdd,Int.reduceSub,Int.reduceNeg,Int.reduceToNat,Int.reduceEq,reduceCtorEq, *])
   | refine And.intro trivial ?_
   | refine And.intro (by omega) ?_
   | refine aI rfl (fun _=>?_) (fun _=>?_)
   | refine And.intro ?_ ?_
  refine N3 (aaF (hset _) ?_);rw [afp];refine ud (L1:=L.set i .dead) (L.set i .dead).length (.cells (C.take (k * 2) ++ .str y :: .lsl q 0 z none 1::(C.drop (k * 2)++List.drop ((k+1) * 2+(n * 2 - k * 2)) (C++R)))) rfl (by simp) lT (by simp) (by simp) (by simp [AV.refs]) (AV.refsL_iff.2 hrf.out) ?_;simpa [AV.ren] using hfin.out
 ·have g8:(cp:Int)<(n:Int)+1:=by omega
  have g9:k+(n+1 - k)=n+1:=by omega
  have g10:((k:Int)+((n+1 - k:Nat):Int)).toNat - k=n+1 - k:=by omega
  have gm2:min 1 (n+1 - k)=1:=by omega
  have gm3:min (n - k) (n+1 - (k+1))=n - k:=by omega
  obtain ⟨ZZ,hZZ⟩:=aea (de [.str [],.sl [] 0 (some 0)] (n+1 - k));have hZl:ZZ.length=(n+1 - k) * 2:=by rw [<- hZZ,Oc];simp
  have hLX:∀ X:List Blk,(L++X)[i]?=some (.cells (C++rest)):=fun X=>by rw [aem hi];exact hL
  have hT:∀ Z,List.take (k * 2) (List.take (k * 2) (C++rest)++Z)=C.take (k * 2):=fun Z=>by
   rw [aeY (by simp;omega),af8,Nat.min_self,aeY (by omega)]
  have hT2:∀ Z,List.take ((k+1) * 2) (C.take (k * 2) ++ .str y :: .lsl q 0 z none 1::Z)=C.take (k * 2)++[.str y,.lsl q 0 z none 1]:=fun Z=>by
   have:(C.take (k * 2)).length=k * 2:=by simp;omega
   rw [show C.take (k * 2) ++ .str y :: .lsl q 0 z none 1::Z=(C.take (k * 2)++[.str y,.lsl q 0 z none 1])++Z by simp,aeY (by simp;omega),aeV (by simp;omega)]
  have hA:List.take ((n - k) * 2) (List.take ((n - k) * 2) (List.drop (k * 2) (C++rest)))=C.drop (k * 2):=by
   rw [af8,Nat.min_self,afA (by omega),aeY (by simp;omega),aeV (by simp;omega)]
  have hD2:List.drop ((k+1) * 2+(n * 2 - k * 2)) (C.take (k * 2) ++ .str y :: .lsl q 0 z none 1::List.drop (k * 2+2) (List.take (k * 2) (C++rest)++ZZ))=[]:=afE (by simp;omega);have hfin:=h.out [];rw [aeJ] at hfin;have hrf:∀ a∈C.take (k * 2) ++ .str y :: .lsl q 0 z none 1::C.drop (k * 2),a.refs (fun i=>decide (i<L.length))=true:=fun a ha=>by
   simp only [aeo,aex] at ha;rcases ha with ha|rfl|rfl|ha
   ·exact hcc.out a (af7 ha)
   ·rfl
   ·simpa [AV.refs] using hq
   ·exact hcc.out a (afU ha)
  replace hrf:=hid hrf;replace hfin:=hid hfin
  repeat' first
   | refine aY ?_
   | (first|refine aO (by kernel_rfl) ?_|refine aA (by kernel_rfl) ?_|refine aB ?_|refine bw ?_|refine a6 (fun _=>?_)|refine ax ?_|refine aR ?_)
     simp (config:={ maxSteps:=2000000 }) only [afp,afM,afu,Kon,push_cast,reduceIte,Nat.reduceEqDiff,Nat.reduceAdd,Nat.reduceMul,Nat.reduceSub,Nat.reduceLT,Nat.reduceLeDiff,Int.reduceLT,Int.reduceLE,Int.reduceAdd,Int.reduceSub,Int.reduceNeg,Int.reduceToNat,Int.reduceEq,reduceCtorEq, *]
   | (first|refine aK (by kernel_rfl) ?_|refine aP ?_|refine aQ ?_|refine bd (aw ?_))
     refine sl ?_
   | exact a7
   | first|apply a8|apply aL|apply ba|apply aM|apply bc|apply aN
   | refine aE ?_
   | first|refine aC rfl ?_|refine aD rfl ?_|refine ap rfl ?_ ?_|refine aG rfl (fun _=>?_) (fun _=>?_)|refine aF rfl (fun _=>?_) (fun _=>?_)
   | ((first|refine ao (fun _=>?_) (fun _=>?_)|refine au (fun _=>?_) (fun _=>?_))<;>try simp (config:={ maxSteps:=2000000 }) only [afp,afM,afu,Kon,push_cast,reduceIte,Nat.reduceEqDiff,Nat.reduceAdd,Nat.reduceMul,Nat.reduceSub,Nat.reduceLT,Nat.reduceLeDiff,Int.reduceLT,Int.reduceLE,Int.reduceAdd,Int.reduceSub,Int.reduceNeg,Int.reduceToNat,Int.reduceEq,reduceCtorEq, *])
   | refine And.intro trivial ?_
   | refine And.intro (by omega) ?_
   | refine aI rfl (fun _=>?_) (fun _=>?_)
   | refine And.intro ?_ ?_
  refine Vv i ?_;rw [agD _ _ hi];refine ud (L1:=L.set i .dead) L.length (.cells (C.take (k * 2) ++ .str y :: .lsl q 0 z none 1::C.drop (k * 2))) rfl (by simp) lT (by simp) (by simp) (by simp [AV.refs]) (AV.refsL_iff.2 hrf.out) ?_;simpa [AV.ren] using hfin.out
abbrev am (s:List UInt8):Prop:=(s.length:Int)<=140737488351232
theorem Vb (a b:List UInt8):Lib.compareBytes a b<0↔a<b:=by
 rw [TK];by_cases h:a<b
 ·simp [h]
 ·by_cases h2:b<a<;>simp [h,h2]
theorem ST (a b:List UInt8):Lib.compareBytes a b=0↔a=b:=by
 rw [TK];by_cases h:a<b
 ·simp only [h,if_true];exact ⟨fun e=>by omega,fun e=>by subst e;exact absurd h (ae9 _)⟩
 ·by_cases h2:b<a
  ·simp only [h,h2,if_true,if_false];exact ⟨fun e=>by omega,fun e=>by subst e;exact absurd h2 (ae9 _)⟩
  ·simp only [h,h2,if_false,true_iff];exact List.le_antisymm (afz.1 h2) (afz.1 h)
def aco (w:AV):Prop:=(∃ l n cap,w=.sl l n cap)\/∃ i off n cp s,w=.lsl i off n cp s
theorem Zp {x n:List UInt8} {w:AV} (hx:am x) (hw:aco w) (h:K (.int .i64 (Lib.compareBytes (aa x) n)) L) :
  aee 69 [.agg [.str x,w],.str n] L K:=by
 replace h:=hid h;rcases hw with ⟨l,m,cap,rfl⟩|⟨i,off,m,cp,s,rfl⟩
 ·refine af mP (by simp [fY]) ?_;simp only [fY,aq];have kk1:=@hid _ (fun L K=>gN hx (L:=L) (K:=K));have kk2:=@hid _ @uh;refine wk ?_;exact ab rfl h.out
 ·refine af mP (by simp [fY]) ?_;simp only [fY,aq];have kk1:=@hid _ (fun L K=>gN hx (L:=L) (K:=K));have kk2:=@hid _ @uh;refine wk ?_;exact ab rfl h.out
def adB (l:List Atr) (C:List AV):Prop:=C.length=l.length * 2/\∀ h:Nat,h<l.length->∃ w,aco w/\(C.drop (h * 2)).take 2=[.str (l.getD h ([],[])).1,w]
def lP {α:Type} (key:α->List UInt8) (l:List α) (k:List UInt8):Bool:=l.any fun a=>decide (key a=k)
theorem jv {α:Type} {key:α->List UInt8} {l:List α} {k:List UInt8} (hr:fI key l) {d:α}:lP key l k=(decide (bQ key l k<l.length) && decide (key (l.getD (bQ key l k) d)=k)):=by
 rw [lP,Yn hr];by_cases hc:bQ key l k<l.length
 ·rw [aev hc,decide_eq_true hc,ae7];simp [hc]
 ·rw [afm (by omega),decide_eq_false hc];rfl
theorem Nv {l:List Atr} {C:List AV} {v:AV} {n:List UInt8} {L:List Blk} (hl:l.length<=1100000) (hC:adB l C) (hrow:Vs L C l.length 2 v) (hr:fI bq l) (hn:am n) (hz:∀ a∈l,am a.1)
  {K:aef} (h:K (.tup [.int .i64 (bQ bq l (aa n):Nat),.bool (lP bq l (aa n))]) L) :
  aee 45 [v,.str n] L K:=by
 have hbs:∀ {K:aef},K (.tup [.int .i64 (bQ bq l (aa n):Nat),.bool (lP bq l (aa n))]) L->aee 68 [v,.str (aa n),.func 69 []] L K:=fun {K} q=>by
  refine adV (m:=bQ bq l (aa n)) (c:=fun h=>Lib.compareBytes (bq (l.getD h ([],[]))) (aa n)) hl hC.1 (Ik _ _ _) hrow (fun h K hh hk=>?_) (fun h hh=>?_) ?_
  ·obtain ⟨w,hw,e⟩:=hC.2 h hh;simp only [e];refine Zp (hz _ ?_) hw hk;simp [hh]
  ·simp only [Vb];have:=Wr (key:=bq) (k:=aa n) hr h hh;simpa [hh] using this
  ·have:=jv (key:=bq) (k:=aa n) hr (d:=([],[]));rw [this] at q;simpa only [ST] using q
 replace hbs:=@hid _ @hbs;replace h:=hid h;rcases hrow with ⟨cap,rfl⟩|⟨bi,cp,rest,rfl,hL⟩
 ·refine af ub (by simp [gM]) ?_;simp only [gM,aq];have kk2:=@hid _ @hbs.out;have kk1:=@hid _ (fun L K=>gN hn (L:=L) (K:=K));refine wk ?_;exact ac h.out
 ·refine af ub (by simp [gM]) ?_;simp only [gM,aq];have kk2:=@hid _ @hbs.out;have kk1:=@hid _ (fun L K=>gN hn (L:=L) (K:=K));refine wk ?_;exact ac h.out
abbrev tyC (ty:Typ):List AV:=[.str ty.1,.int .i64 ty.2.1,.bool ty.2.2.1,.bool ty.2.2.2]
theorem Yg {x n:List UInt8} {ty:Typ} {p:Nat} {L:List Blk} (hp:L[p]?=some (.cells (tyC ty))) {K:aef} (h:K (.int .i64 (Lib.compareBytes (bP ty.2.1 x) n)) L) :
  aee 84 [.str x,.str n,.ptr p 0] L K:=by
 unfold bP at h;refine aed Ly ?_;refine jq ?_;rcases hm:ci ty.2.1 x with _|m
 all_goals rw [hm] at h
 ·replace h:Hid (K (.int .i64 (Lib.compareBytes [] n)) L):=hid h;simp only [gj];refine sk ?_;have kk1:=@hid _ @uh;refine wk ?_;exact ac h.out
 ·replace h:Hid (K (.int .i64 (Lib.compareBytes m n)) L):=hid h;simp only [gj];refine sk ?_;have kk1:=@hid _ @uh;refine wk ?_;exact ac h.out
def Ud (syn:Int) (l:List (List UInt8)) (v:List UInt8):AV:=match ci syn v with
 | none=>.tup [.int .i64 0,.bool false,.bool false]
 | some n=>.tup [.int .i64 (bQ (bP syn) l n:Nat),.bool (lP (bP syn) l n),.bool true]
theorem Q8 {ty:Typ} {l:List (List UInt8)} {w:AV} {v:List UInt8} {L:List Blk} (hl:l.length<=1100000) (hrow:Vs L (l.map AV.str) l.length 1 w) (hr:fI (bP ty.2.1) l) {K:aef} (h:K (Ud ty.2.1 l v) L) :
  aee 53 [.agg (tyC ty),w,.str v] L K:=by
 have hbs:∀ (X:List Blk) (n:List UInt8) {K:aef},K (.tup [.int .i64 (bQ (bP ty.2.1) l n:Nat),.bool (lP (bP ty.2.1) l n)]) (L++(.cells (tyC ty)::X))->aee 83 [w,.str n,.func 84 [.ptr L.length 0]] (L++(.cells (tyC ty)::X)) K:=fun X n {K} q=>by
  have hrow':Vs (L++(.cells (tyC ty)::X)) (l.map AV.str) l.length 1 w:=by
   rcases hrow with ⟨cap,rfl⟩|⟨bi,cp,rest,rfl,hL⟩
   ·exact .inl ⟨cap,rfl⟩
   ·exact .inr ⟨bi,cp,rest,rfl,aeb hL⟩
  refine adU (m:=bQ (bP ty.2.1) l n) (c:=fun h=>Lib.compareBytes (bP ty.2.1 (l.getD h [])) n) hl (by simp) (Ik _ _ _) hrow' (fun h K hh hk=>?_) (fun h hh=>?_) ?_
  ·have e:(l.map AV.str).getD h .undef=.str (l.getD h []):=by simp [hh]
   simp only [e];exact Yg (by rw [aes (aeg _),afn];rfl) hk
  ·simp only [Vb];have:=Wr (key:=bP ty.2.1) (k:=n) hr h hh;simpa [hh] using this
  ·have:=jv (key:=bP ty.2.1) (k:=n) hr (d:=[]);rw [this] at q;simpa only [ST] using q
 replace hbs:=@hid _ @hbs;unfold Ud at h;rcases hrow with ⟨cap,rfl⟩|⟨bi,cp,rest,rfl,hL⟩
 ·refine aed ua ?_;refine jq ?_;rcases hn:ci ty.2.1 v with _|n
  ·rw [hn] at h;simp only at h;replace h:=hid h;simp only [gj];refine sk ?_;refine wk ?_;exact ab rfl h.out
  ·rw [hn] at h;simp only at h;replace h:=hid h;simp only [gj];refine sk ?_;refine wk ?_;refine hbs.out [] n ?_;refine sk ?_;refine wk ?_;exact ab rfl h.out
 ·refine aed ua ?_;refine jq ?_;rcases hn:ci ty.2.1 v with _|n
  ·rw [hn] at h;simp only at h;replace h:=hid h;simp only [gj];refine sk ?_;refine wk ?_;exact ab rfl h.out
  ·rw [hn] at h;simp only at h;replace h:=hid h;simp only [gj];refine sk ?_;refine wk ?_;refine hbs.out [] n ?_;refine sk ?_;refine wk ?_;exact ab rfl h.out
def aW (ts:List Typ):List AV:=ts.flatMap tyC
theorem gG (ts:List Typ):(aW ts).length=ts.length * 4:=by
 induction ts with
 | nil=>rfl
 | cons a l ih=>simp only [aW,ae4,aeF,tyC,aet,afk] at ih ⊢;omega
abbrev gk:Typ:=([],0,false,false)
theorem ik:∀ {ts:List Typ} {k:Nat},k<ts.length->((aW ts).drop (k * 4)).take 4=tyC (ts.getD k gk)
 | a::l,0,_=>rfl
 | a::l,k+1,h=>by
   have ih:=@ik l k (by simpa using h);rw [show (k+1) * 4=k * 4+1+1+1+1 by omega];simpa [aW,tyC] using ih
theorem ZI {a b:List UInt8} (ha:am a) (hb:am b) (h:K (.bool (decide (aa a=aa b))) L):aee 73 [.str a,.str b] L K:=by
 replace h:=hid h;refine af Oq (by simp [oN]) ?_;simp only [oN,aq];have kk1:=@hid _ (fun L K=>gN ha (L:=L) (K:=K));have kk2:=@hid _ (fun L K=>gN hb (L:=L) (K:=K));refine wk ?_;exact ac h.out
theorem aby {ty:Typ} {n:List UInt8} {p:Nat} (ha:am ty.1) (hn:am n) {L:List Blk} (hp:L[p]?=some (.cells [.str n])) {K:aef} (h:K (.bool (decide (aa ty.1=aa n))) L) :
  aee 98 [.agg (tyC ty),.ptr p 0] L K:=by
 replace h:=hid h;have hp2:∀ X:List Blk,(L++X)[p]?=some (.cells [.str n]):=fun X=>by
  rw [aem (aeh.1 hp).1];exact hp
 refine af t8 (by simp [gp]) ?_;simp only [gp,aq];have kk1:=@hid _ (fun L K=>ZI ha hn (L:=L) (K:=K));refine wk ?_;exact ab rfl h.out
theorem acV {f:FuncId} {caps:List AV} {ts:List Typ} {cap:Option Nat} {q:Typ->Bool} {L:List Blk} (hn:ts.length<=1100000) (hf:∀ (ty:Typ) (K:AV->List Blk->Prop),ty∈ts->K (.bool (q ty)) L->aee f (.agg (tyC ty)::caps) L K)
  {K:aef} (h1:(∀ ty∈ts,q ty=false)->K (.int .i64 (-1)) L) (h2:∀ k:Nat,k<ts.length->(∀ j,j<k->q (ts.getD j gk)=false)->q (ts.getD k gk)=true->K (.int .i64 k) L) :
  aee 97 [.sl (aW ts) ts.length cap,.func f caps] L K:=by
 replace hf:=hid hf;replace h1:=hid h1;replace h2:=hid h2;refine aed gh ?_;refine ai (fun n T' L'=>∃ k:Nat,n=ts.length - k/\k<=ts.length/\T'=[(8,.int .i64 (k:Int)),(7,.int .i64 ts.length),(0,.sl (aW ts) ts.length cap),(1,.func f caps)]/\L=L' /\
  ∀ j,j<k->q (ts.getD j gk)=false) (CutS (b:=aeg _)) ⟨0,rfl,aej _,rfl,rfl,by simp⟩ ?_
 rintro _ _ L' ⟨k,rfl,hk,rfl,e,hr⟩;subst e;replace hr:=hid hr;by_cases hlt:k<ts.length
 ·have g1:(k:Int)<(ts.length:Int):=by omega
  have g2:=aec k (by omega);have e4:k * 4+4<=(aW ts).length:=by rw [gG];omega
  have e3:=ik hlt;obtain ⟨ty,hty⟩:=aea (ts.getD k gk);have hm:ty∈ts:=by rw [<- hty];simp [hlt]
  rw [hty] at e3;replace hty:=hid hty;rcases hqk:q ty with _|_
  ·have kk1:Hid (∀ {K:aef},K (.bool false) L->aee f (.agg (tyC ty)::caps) L K):=hid fun a=>hf.out ty _ hm (by rw [hqk];exact a)
   replace hqk:=hid hqk;simp only [tyC] at kk1 e3;refine wk ?_;refine ag _ _ _ (by omega) (CutL (b:=by simp)) ⟨k+1,rfl,hlt,rfl,rfl,fun j hj=>?_⟩;rcases aer j k with h|h
   ·exact hr.out j h
   ·have:j=k:=by omega
    subst this;rw [hty.out];exact hqk.out
  ·have kk1:Hid (∀ {K:aef},K (.bool true) L->aee f (.agg (tyC ty)::caps) L K):=hid fun a=>hf.out ty _ hm (by rw [hqk];exact a)
   replace hqk:=hid hqk;simp only [tyC] at kk1 e3;refine wk ?_;exact ac (h2.out k hlt hr.out (by rw [hty.out];exact hqk.out))
 ·have g1:¬ (k:Int)<(ts.length:Int):=by omega
  refine wk ?_;refine ac (h1.out fun ty hty=>?_);obtain ⟨j,hj,e⟩:=aeU.1 hty;have:=hr.out j (by omega);simpa [hj,e] using this
def oH (o:Option Typ):AV:=.tup [.agg (tyC (o.getD gk)),.bool o.isSome]
theorem gP {α:Type} {q:α->Bool} {d:α}:∀ {l:List α} {k:Nat},k<l.length->(∀ j,j<k->q (l.getD j d)=false)->q (l.getD k d)=true->l.find? q=some (l.getD k d)
 | a::t,0,_,_,h=>by
   simp only [aft] at h ⊢;rw [agl,h]
 | a::t,k+1,hk,hp,h=>by
   have h0:=hp 0 (by omega);simp only [aft] at h0;rw [agl,h0];simp only [afS] at h ⊢;exact gP (by simpa using hk) (fun j hj=>by simpa using hp (j+1) (by omega)) h
theorem acL {ts:List Typ} {capT:Option Nat} {c2:List AV} {n2:Nat} {cap2:Option Nat} {n:List UInt8} (hl:ts.length<=1100000) (hts:∀ t∈ts,am t.1) (hn:am n) (h:K (oH (ef ts n)) L) :
  aee 75 [.agg [.sl (aW ts) ts.length capT,.sl c2 n2 cap2],.str n] L K:=by
 replace h:=hid h;refine aed DE ?_;refine acV (q:=fun t=>decide (aa t.1=aa n)) hl (fun ty K hm hk=>?_) (fun hno=>?_) (fun k hk hp hq=>?_)
 ·exact aby (hts ty hm) hn (by simp) hk
 ·have e:ef ts n=none:=agL.2 fun t ht=>by simpa using hno t ht
  rw [e] at h;simp only [oH,afV,aga,tyC] at h;refine sk ?_;refine wk ?_;exact ab rfl h.out
 ·have e:ef ts n=some (ts.getD k gk):=gP (d:=gk) hk hp hq;have e4:k * 4+4<=(aW ts).length:=by rw [gG];omega
  have e3:=ik hk;have g1:¬ (k:Int)<0:=by omega
  have g2:(k:Int)<(ts.length:Int):=by omega
  obtain ⟨ty,hty⟩:=aea (ts.getD k gk);rw [hty] at e e3;rw [e] at h;simp only [oH,aeP,age,tyC] at h e3;clear hp hq hty e;refine sk ?_;refine wk ?_;exact ab rfl h.out
theorem TF {ts:List Typ} {capT:Option Nat} {c2:List AV} {n2:Nat} {cap2:Option Nat} {n:List UInt8} (hl:ts.length<=1100000) (hts:∀ t∈ts,am t.1) (hn:am n) (h:K (oH (ef ts n)) L) :
  aee 51 [.agg [.sl (aW ts) ts.length capT,.sl c2 n2 cap2],.str n] L K:=by
 unfold oH at h;refine aed Ou ?_;refine acL hl hts hn ?_;unfold oH;obtain ⟨ty,hty⟩:=aea ((ef ts n).getD gk);obtain ⟨b,hb⟩:=aea ((ef ts n).isSome);rw [hty,hb] at h ⊢;replace h:=hid h;refine sk ?_;refine wk ?_;exact ab rfl h.out
end Go.Proofs.YtigifoeopopnbaaGreatDoor.Av
