/- Joined texts of the walk, made small by a program. -/
import Derived.Test.YtdhjplmjpjfjnaaGreatHP4
import Derived.Test.YtdhjplmjpjfjnaaGreatRows
import Derived.KernelRfl
set_option linter.unusedSimpArgs false
set_option linter.unusedVariables false
set_option maxRecDepth 100000
namespace Go.Proofs.YtdhjplmjpjfjnaaGreat.Av
open Go
def vU:LSO:=[Am 2]
def vT:LSO:=[Am 3]
def vS:LSO:=[Aa 6 0,Ae 7 6,Ac 8 0]
def vR:LSO:=[Al 9 8 7]
def vQ:LSO:=[Aj 10 2 6 8,A1 11 2 10,Br 5,Ay 2 5 11]
def vP:List (aj×Kd) :=
 [Az 12 3,Ap 13 0 5,Ao 14 1 13 0 0,Ap 15 1 5,Ao 16 1 15 0 0,A8 17 75 16 0 0,od 18 (.build [(.str []),(.sl [] 0 (some 0))] [(0,(1,(tm 14))),(1,(1,(tm 17)))]) .pure,
 od 19 (.bslice false 2 1 [(.str []),(.sl [] 0 (some 0))] [(0,(2,(tm 18)))]) (.read 0 0)]
def sw:List aj :=
 [⟨(some 20),(.app 1 2 40 [(.str []),(.sl [] 0 (some 0))] (tm 12) (tm 19)),none⟩,⟨(some 3),(.mv (tm 20)),none⟩]
def vO:LSO:=[Ai 21 8 1,Aa 8 21]
def vN:LSO:=[Aa 22 3,Aa 2 22]
def vm:bh:=⟨23,(.seq (.sreg vU [])
 (.seq (.sreg vT [])
 (.seq (.seq (.sreg vS [])
 (.block 0 (.loop (.seq (.sreg vR [])
 (.seq (.cond (tm 9) .skip
 (.exit 0))
 (.seq (.block 1 (.seq (.sreg vQ B5)
 (.dregM vP sw BD)))
 (.sreg vO B4)))))))
 (.seq (.sreg vN B4)
 .ret)))),[(.tmp 2)]⟩
attribute [push_cast] vU vT vS vR vQ vP sw vO vN
theorem D6:bz Tryz.prog (fun _ _=>1) 48=some vm.raw:=by kernel_rfl
def jP:LSO:=[Am 4,Am 5]
def jO:LSO:=[Aa 7 0,AN 8 7,Aa 9 8,.grp none 9 false
 [Ak 10 9 0,og 11 9 false (.nilchk (tm 10)),A9 12 9 1 11,A6 13 9 1 12,Ak 14 9 1,og 15 9 false (.mget .int false .nilptr (tm 13) (tm 14)),AS 16 9 15]
 17 (tm 16)]
def jN:LSO:=[Am 4,Am 5]
def jM:LSO:=[Aa 18 0,Ag 19 18,Ad 20 1 19,Ab 21 1 20,Aa 22 1,AK 23 21 22,Aa 6 23]
def jL:LSO:=[Aa 24 6,Ag 25 24,Ad 26 0 25,Ab 27 1 26,Bl 28 47 27,Aa 29 6,Ag 30 29,Ad 31 2 30,Ab 32 1 31,Ah 33 48 32,Aa 4 28,Aa 5 33]
def dM:bh:=⟨34,(.seq (.sreg jP [])
 (.seq (.seq (.sreg jO B6)
 (.cond (tm 17) (.seq (.sreg jN [])
 .ret)
 .skip))
 (.seq (.sreg jM B8)
 (.seq (.sdreg jL [.pure,(.read 0 0),.pure,(.read 0 0),(.read 0 0),.pure,(.read 0 0),.pure,(.read 0 0)] [true,true,false,false,false,false,false,false,false,false,false,false])
 .ret)))),[(.tmp 4),(.tmp 5)]⟩
attribute [push_cast] jP jO jN jM jL
theorem jn:bz Tryz.prog (fun _ _=>1) 16=some dM.raw:=by kernel_rfl
def ie:LSO:=[Am 4]
def ic:LSO:=[Aa 10 1,Ah 11 50 10,Aa 9 11,Ar 12 9,Aw 13 9,Aa 5 12,Aa 6 13]
def ib:LSO:=[Aa 14 0,AN 15 14,Aa 16 15,.grp none 16 false
 [Ak 17 16 6,Bm 18 16 17 0]
 19 (tm 18)]
def ia:LSO:=[Am 4]
def hY:LSO:=[Aa 20 1,Ae 21 20,Ac 22 0]
def hG:LSO:=[Al 23 22 21]
def hF:LSO:=[Aa 24 22,Aa 7 24]
def gZ:LSO:=[Aa 25 0,Aa 26 1,Aa 27 7,Bt 28 26 27,Aq 29 15 25 28,Aa 8 29]
def gX:LSO:=[Aa 30 8,A3 31 30 0]
def gW:LSO:=[Aa 32 0,Ag 33 32,Ad 34 1 33,Ab 35 1 34,Aa 36 8,AK 37 35 36,Ag 38 37,Ad 39 0 38,Ab 40 1 39,Bl 41 47 40,Aa 4 41]
def gg:LSO:=[Ai 42 22 1,Aa 22 42]
def gf:LSO:=[Am 4]
def cS:bh:=⟨43,(.seq (.sreg ie [])
 (.seq (.seq (.sreg ic B8)
 (.seq (.sreg ib B6)
 (.cond (tm 19) (.seq (.sreg ia [])
 .ret)
 .skip)))
 (.seq (.seq (.sreg hY BC)
 (.block 0 (.loop (.seq (.sreg hG [])
 (.seq (.cond (tm 23) .skip
 (.exit 0))
 (.seq (.block 1 (.seq (.sreg hF B4)
 (.seq (.sreg gZ B9)
 (.seq (.sreg gX B4)
 (.cond (tm 31) (.seq (.sreg gW BG)
 .ret)
 .skip)))))
 (.sreg gg B4)))))))
 (.seq (.sreg gf [])
 .ret)))),[(.tmp 4)]⟩
attribute [push_cast] ie ic ib ia hY hG hF gZ gX gW gg gf
theorem gG:bz Tryz.prog (fun _ _=>1) 19=some cS.raw:=by kernel_rfl
def v7:LSO:=[Am 2]
def v6:LSO:=[o1 3 (.alloc [(.sl [] 0 (some 0))])]
def vZ:LSO:=[Aa 8 0,Ah 9 121 8]
def vY:LSO:=[Aa 5 11]
def vX:LSO:=[Aa 13 5,Bn 14 13,Ah 15 46 14,Aa 12 15,Ar 16 12,Aw 17 12,Aa 6 16,Aa 7 17]
def vW:LSO:=[Ab 18 1 3,Aa 19 6,Bu 20 19,Bv 21 18 20,Ay 1 3 21]
def vV:LSO:=[Ab 22 1 3,Aa 2 22]
def vn:bh:=⟨23,(.seq (.sreg v7 [])
 (.seq (.sreg v6 [])
 (.seq (.seq (.sreg vZ B4)
 (.block 0 (.rangeF (tm 9) [10,11] (.sreg vY [])
 (.block 1 (.seq (.sreg vX BQ)
 (.sreg vW BE))))))
 (.seq (.sreg vV B4)
 .ret)))),[(.tmp 2)]⟩
attribute [push_cast] v7 v6 vZ vY vX vW vV
theorem D7:bz Tryz.prog (fun r i=>if r=5∧i=3 then 2 else 1) 82=some vn.raw:=by kernel_rfl
def jK:LSO:=[A4 3 0,Am 6]
def jJ:LSO:=[Ab 12 1 3,AN 13 12,Aa 14 13,.grp none 14 false
 [A6 15 14 1 3,og 16 14 false (.nilchk (tm 15)),A9 17 14 1 16,A6 18 14 1 17,Ak 19 14 1,og 20 14 false (.mget .int false .nilptr (tm 18) (tm 19)),AS 21 14 20]
 22 (tm 21),Aa 23 22,.grp none 23 false
 [Ak 24 23 2,og 25 23 false (.bin .lss (tm 24) (iv 0))]
 26 (tm 25),Aa 27 26,.grp none 27 false
 [Ak 28 27 2,AO 29 27 28 2]
 30 (tm 29)]
def jI:LSO:=[Am 6]
def jH:LSO:=[Ab 31 1 3,Ag 32 31,Ad 33 1 32,Ab 34 1 33,Aa 35 1,AK 36 34 35,Ag 37 36,Ad 38 1 37,Ab 39 1 38,Aa 7 39]
def jG:LSO:=[Am 8]
def jF:LSO:=[Ab 40 1 3,Ag 41 40,Ad 42 1 41,Ab 43 1 42,o1 44 (.mrange (tm 43))]
def jE:LSO:=[o1 45 (.mnext (tm 44)),Ar 46 45]
def jD:LSO:=[o1 47 (.mentry (tm 44)),Ar 48 47,Aw 49 47,Aa 9 48,Aa 10 49]
def jC:LSO:=[Aa 50 10,Ag 51 50,Ad 52 1 51,Ab 53 1 52,Ae 54 53,Aa 55 7,Ae 56 55,Bc 57 54 56,Aa 11 57]
def jB:LSO:=[Aa 58 11,AE 59 58 0,Aa 60 59,.grp none 60 true
 [Af 61 60 10,AF 62 60 61,Ax 63 60 1 62,As 64 60 1 63,Af 65 60 7,AA 66 60 65,og 67 60 true (.slV 1 (tm 64) none (some (tm 66)) none),Af 68 60 7,AB 69 60 39 67 68]
 70 (tm 69),Aa 71 70,.grp none 71 true
 [Af 72 71 2,AH 73 71 72 2,Af 74 71 73,.grp (some (71,true)) 74 false
 [Ak 75 74 11,Ak 76 74 2,Bw 77 74 75 76]
 78 (tm 77)]
 79 (tm 78)]
def iE:LSO:=[Aa 80 8,Aa 81 9,o1 82 (.bslice false 1 1 [(.int .i64 0)] [(0,(1,(tm 81)))]),o1 83 (.app 2 1 8 [(.int .i64 0)] (tm 80) (tm 82)),Aa 8 83]
def iD:LSO:=[Aa 84 8,o1 85 (.mkfn 41 [(tm 3)]),Aq 86 40 84 85]
def iC:LSO:=[Aa 87 8,Aa 6 87]
def bp:bh:=⟨88,(.seq (.sreg jK [])
 (.seq (.seq (.sreg jJ BA)
 (.cond (tm 30) (.seq (.sreg jI [])
 .ret)
 .skip))
 (.seq (.sreg jH BD)
 (.seq (.sreg jG [])
 (.seq (.seq (.sreg jF B7)
 (.block 0 (.loop (.seq (.sreg jE B4)
 (.seq (.cond (tm 46) .skip
 (.exit 0))
 (.block 1 (.seq (.sreg jD BB)
 (.seq (.sreg jC BF)
 (.seq (.sreg jB B9)
 (.cond (tm 79) (.sreg iE B7)
 .skip))))))))))
 (.seq (.sreg iD [false,false,false])
 (.seq (.sreg iC B4)
 .ret))))))),[(.tmp 6)]⟩
attribute [push_cast] jK jJ jI jH jG jF jE jD jC jB iE iD iC
theorem dL:bz Tryz.prog (fun r i=>if r=10∧i=3 then 2 else 1) 12=some bp.raw:=by kernel_rfl
def lK:LSO:=[An 6]
def lJ:LSO:=[Aa 7 1,Ae 8 7,Aa 9 2,Ae 10 9,AC 11 8 10,Aa 12 11,.grp none 12 true
 [Af 13 12 1,Af 14 12 2,AB 15 12 86 13 14]
 16 (tm 15),Aa 6 16]
def eu:bh:=⟨17,(.seq (.sreg lK [])
 (.seq (.sreg lJ BA)
 .ret)),[(.tmp 6)]⟩
attribute [push_cast] lK lJ
theorem lB:bz Tryz.prog (fun _ _=>1) 58=some eu.raw:=by kernel_rfl
def gV:LSO:=[A4 5 2,Ac 6 0]
def gU:LSO:=[Ad 16 2 5,Ab 17 1 16,Ah 18 50 17,Aa 15 18,Ar 19 15,Aw 20 15,Aa 7 19,Aa 8 20]
def gT:LSO:=[Aa 22 0,Ad 23 1 5,Ab 24 1 23,Aa 25 0,Ag 26 25,Ad 27 0 26,Ab 28 1 27,Bd 29 58 22 24 28,Aa 21 29]
def gS:LSO:=[Ac 6 53]
def gR:LSO:=[Aa 31 8,A2 32 31 0,Aa 33 32,.grp none 33 false
 [A9 34 33 2 5,A6 35 33 1 34,AI 36 33 35,AT 37 33 36 0]
 38 (tm 37),Aa 30 38]
def gQ:LSO:=[Ac 6 34]
def gP:LSO:=[Ad 40 2 5,Ab 41 1 40,Be 42 41 1,Ad 43 1 5,Ab 44 1 43,Aq 45 86 42 44,Aa 39 45]
def gO:LSO:=[Ac 6 53]
def gN:LSO:=[Aa 47 0,Ad 48 2 5,Ab 49 1 48,Be 50 49 1,Aq 51 15 47 50,Au 52 51 0,Aa 46 52]
def gM:LSO:=[Ac 6 32]
def gc:LSO:=[Aa 53 0,Ad 54 2 5,Ab 55 1 54,Aq 56 15 53 55,Aa 9 56]
def gb:LSO:=[Aa 57 9,A3 58 57 0,Aa 59 58,.grp none 59 true
 [Af 60 59 9,Af 61 59 1,og 62 59 true (.bin .neq (tm 60) (tm 61))]
 63 (tm 62)]
def ga:LSO:=[Ac 6 68]
def f9:LSO:=[Aa 64 0,Aa 65 1,AU 66 12 64 65 2,Ae 67 66,Ac 68 0]
def f8:LSO:=[Al 69 68 67]
def f7:LSO:=[Aj 70 1 66 68,Ab 71 1 70,Aa 11 71]
def fY:LSO:=[Aa 72 0,Ag 73 72,Ad 74 1 73,Ab 75 1 74,Aa 76 11,AK 77 75 76,Ag 78 77,Ad 79 0 78,Ab 80 1 79,Aa 12 80]
def fX:LSO:=[Ad 82 2 5,Ab 83 1 82,Aa 84 12,Aa 85 12,Ae 86 85,Ad 87 1 5,Ab 88 1 87,Ae 89 88,Bc 90 86 89,Bx 91 84 90,Aq 92 47 83 91,Ah 93 50 92,Aa 81 93,
 Ar 94 81,Aw 95 81,Aa 13 94,Aa 14 95]
def fW:LSO:=[Aa 96 14,A2 97 96 0]
def fV:LSO:=[Ac 6 34]
def fU:LSO:=[Ai 98 68 1,Aa 68 98]
def fT:LSO:=[Ac 6 0]
def aG:bh:=⟨99,(.seq (.sreg gV [])
 (.seq (.sreg gU BA)
 (.seq (.block 0 (.seq (.sdreg gT [.pure,.pure,(.read 0 0),.pure,(.read 0 0),.pure,(.read 0 0)] BF)
 (.cond (tm 21) (.seq (.sreg gS [])
 .ret)
 (.seq (.sreg gR B7)
 (.cond (tm 30) (.seq (.sreg gQ [])
 .ret)
 (.seq (.sdreg gP [.pure,(.read 0 0),(.read 0 0),.pure,(.read 0 0)] B8)
 (.cond (tm 39) (.seq (.sreg gO [])
 .ret)
 (.seq (.sreg gN B8)
 (.cond (tm 46) (.seq (.sreg gM [])
 .ret)
 .skip)))))))))
 (.seq (.seq (.sreg gc B7)
 (.seq (.sreg gb B6)
 (.cond (tm 63) (.seq (.sreg ga [])
 .ret)
 .skip)))
 (.seq (.seq (.sreg f9 [true,true,true,false,false])
 (.block 1 (.loop (.seq (.sreg f8 [])
 (.seq (.cond (tm 69) .skip
 (.exit 1))
 (.seq (.block 2 (.seq (.sreg f7 B5)
 (.seq (.sreg fY BD)
 (.seq (.sdreg fX [.pure,(.read 0 0),.pure,.pure,(.read 0 0),.pure,(.read 0 0),(.read 0 0),.pure,(.read 0 0),(.read 0 0),(.read 0 0),.pure,.pure,.pure,.pure] [true,false,false,false,false,false,false,false,false,false,false,false,false,false,false,false,false])
 (.seq (.sreg fW B4)
 (.cond (tm 97) (.seq (.sreg fV [])
 .ret)
 .skip))))))
 (.sreg fU B4)))))))
 (.seq (.sreg fT [])
 .ret)))))),[(.tmp 6)]⟩
attribute [push_cast] gV gU gT gS gR gQ gP gO gN gM gc gb ga f9 f8 f7 fY fX fW fV fU fT
theorem a8:bz Tryz.prog (fun _ _=>1) 59=some aG.raw:=by kernel_rfl
def mT:LSO:=[Aa 7 0,Ag 8 7,Ad 9 0 8,Ab 10 1 9,Ag 11 10,Ad 12 1 11,Ab 13 1 12,Aa 14 1,AK 15 13 14,Aa 6 15]
def mS:LSO:=[Aa 16 6,Aa 17 6,Aa 18 2,Bl 19 47 18,Aa 20 2,Ah 21 82 20,Ag 22 16,Ad 23 0 22,Ay 1 23 19,Ag 24 17,Ad 25 1 24,Ay 1 25 21]
def mR:List (aj×Kd) :=
 [Az 26 0,A5 27 26 0 1,Ap 28 0 27,Ao 29 1 28 0 1,A5 30 29 0 1,Ap 31 2 30,Ao 32 1 31 0 1,Az 33 6,A5 34 33 0 0,Ap 35 1 34,Ao 36 1 35 0 0,od 37 (.call 85 [(tm 36)]) .eff,
 A8 38 84 37 0 0,od 39 (.call 83 [(tm 38),(.av (.str [44]))]) (.read 0 0),Az 40 1]
def l7:List aj :=
 [⟨none,(.mset .str (tm 32) (tm 39) (tm 40)),none⟩]
def jv:bh:=⟨41,(.seq (.sreg mT BD)
 (.seq (.sreg mS BK)
 (.dregM mR l7 [false,false,false,false,false,false,false,false,false,false,false,false,false,false,false]))),[]⟩
attribute [push_cast] mT mS mR l7
theorem xC:bz Tryz.prog (fun r i=>if r=2∧i=11 then 3 else 1) 56=some jv.raw:=by kernel_rfl
def mQ:LSO:=[A4 1 0,o1 2 (.mv (.av .nilfunc))]
def mP:LSO:=[o1 3 (.mkfn 126 [(tm 1)]),Aa 2 3]
def ju:bh:=⟨4,(.seq (.sreg mQ [])
 (.seq (.sreg mP B4)
 .ret)),[(.tmp 2)]⟩
attribute [push_cast] mQ mP
theorem xB:bz Tryz.prog (fun _ _=>1) 85=some ju.raw:=by kernel_rfl
def jA:LSO:=[A4 2 0]
def jz:LSO:=[Ab 5 1 1,Ah 6 127 5]
def jy:LSO:=[Aa 4 8]
def jx:LSO:=[Ab 9 1 2,Aa 10 4,o1 11 (.callv (tm 9) [(tm 10)]),AJ 12 11]
def gF:bh:=⟨13,(.seq (.sreg jA [])
 (.seq (.sreg jz B4)
 (.block 0 (.rangeF (tm 6) [7,8] (.sreg jy [])
 (.block 1 (.seq (.sreg jx B6)
 (.cond (tm 12) .ret
 .skip))))))),[]⟩
attribute [push_cast] jA jz jy jx
theorem vp:bz Tryz.prog (fun _ _=>1) 126=some gF.raw:=by kernel_rfl
def iH:LSO:=[Aa 7 0,Ag 8 7,Ad 9 0 8,Ab 10 1 9,Aa 11 1,Be 12 11 1,Aq 13 15 10 12,Aa 6 13]
def iG:LSO:=[Aa 14 6,A3 15 14 0]
def iF:LSO:=[Aa 16 0,Ag 17 16,Ad 18 0 17,Ab 19 1 18,Ag 20 19,Ad 21 1 20,Ab 22 1 21,Aa 23 6,AK 24 22 23,Ag 25 24,Ad 26 3 25,Ab 27 1 26,Aa 28 2,Bf 29 27 28,
 Ag 30 24,Ad 31 3 30,Ay 1 31 29]
def di:bh:=⟨32,(.seq (.sdreg iH [.pure,(.read 0 0),.pure,(.read 0 0),.pure,(.read 0 0)] BA)
 (.seq (.sreg iG B4)
 (.cond (tm 15) (.sreg iF [false,false,false,false,false,false,false,false,false,false,false,false,false,false,false,false])
 .skip))),[]⟩
attribute [push_cast] iH iG iF
theorem ig:bz Tryz.prog (fun _ _=>1) 57=some di.raw:=by kernel_rfl
def yQ:LSO:=[An 4]
def yP:LSO:=[Aa 10 0,Ah 11 50 10,Aa 9 11,Ar 12 9,Aw 13 9,Aa 5 12,Aa 6 13]
def yO:LSO:=[Aa 15 1,Ah 16 46 15,Aa 14 16,Ar 17 14,Aw 18 14,Aa 7 17,Aa 8 18]
def yN:LSO:=[Aa 19 6,A2 20 19 0,Aa 21 20,.grp none 21 false
 [Ak 22 21 8,Bm 23 21 22 0]
 24 (tm 23),Aa 25 24,.grp none 25 false
 [Ak 26 25 0,AI 27 25 26,Ak 28 25 1,AI 29 25 28,og 30 25 false (.bin .lss (tm 27) (tm 29))]
 31 (tm 30)]
def yM:LSO:=[An 4]
def yL:LSO:=[Aa 32 0,Aa 33 0,Ae 34 33,Aa 35 1,Ae 36 35,Bc 37 34 36,Bt 38 32 37,o1 39 (.call 73 [(tm 38),(.av (.bool true))]),Aa 40 7,AC 41 39 40,Aa 4 41]
def eM:bh:=⟨42,(.seq (.sreg yQ [])
 (.seq (.sreg yP B8)
 (.seq (.sreg yO BI)
 (.seq (.seq (.sreg yN B9)
 (.cond (tm 31) (.seq (.sreg yM [])
 .ret)
 .skip))
 (.seq (.sreg yL BG)
 .ret))))),[(.tmp 4)]⟩
attribute [push_cast] yQ yP yO yN yM yL
theorem iz:bz Tryz.prog (fun _ _=>1) 86=some eM.raw:=by kernel_rfl
def dc:LSO:=[A4 1 0,o1 2 (.mv (.av .nilfunc))]
def db:LSO:=[o1 3 (.mkfn 146 [(tm 1)]),Aa 2 3]
def bU:bh:=⟨4,(.seq (.sreg dc [])
 (.seq (.sreg db B4)
 .ret)),[(.tmp 2)]⟩
attribute [push_cast] dc db
theorem fA:bz Tryz.prog (fun _ _=>1) 121=some bU.raw:=by kernel_rfl
def cR:LSO:=[Ab 4 1 1,Ae 5 4,AX 6 5 1,Aa 3 6]
def cQ:LSO:=[Aa 7 3,AE 8 7 0]
def cP:LSO:=[Aa 11 0,Aa 12 3,Ab 13 1 1,Aa 14 3,Aj 15 1 13 14,Ab 16 1 15,o1 17 (.callv (tm 11) [(tm 12),(tm 16)]),AJ 18 17]
def cO:LSO:=[Aa 9 3,AX 10 9 1,Aa 3 10]
def bK:bh:=⟨19,(.seq (.sreg cR B6)
 (.block 0 (.loop (.seq (.seq (.sreg cQ B4)
 (.cond (tm 8) .skip
 (.exit 0)))
 (.seq (.block 1 (.seq (.sreg cP BA)
 (.cond (tm 18) .ret
 .skip)))
 (.sreg cO B5)))))),[]⟩
attribute [push_cast] cR cQ cP cO
theorem fi:bz Tryz.prog (fun _ _=>1) 146=some bK.raw:=by kernel_rfl
def dw:LSO:=[A4 1 0,o1 2 (.mv (.av .nilfunc))]
def dv:LSO:=[o1 3 (.mkfn 149 [(tm 1)]),Aa 2 3]
def bZ:bh:=⟨4,(.seq (.sreg dw [])
 (.seq (.sreg dv B4)
 .ret)),[(.tmp 2)]⟩
attribute [push_cast] dw dv
theorem fI:bz Tryz.prog (fun _ _=>1) 127=some bZ.raw:=by kernel_rfl
def cZ:LSO:=[Ab 4 1 1,Ae 5 4,AX 6 5 1,Aa 3 6]
def cY:LSO:=[Aa 7 3,AE 8 7 0]
def cX:LSO:=[Aa 11 0,Aa 12 3,Ab 13 1 1,Aa 14 3,Aj 15 1 13 14,Ab 16 1 15,o1 17 (.callv (tm 11) [(tm 12),(tm 16)]),AJ 18 17]
def cW:LSO:=[Aa 9 3,AX 10 9 1,Aa 3 10]
def bS:bh:=⟨19,(.seq (.sreg cZ B6)
 (.block 0 (.loop (.seq (.seq (.sreg cY B4)
 (.cond (tm 8) .skip
 (.exit 0)))
 (.seq (.block 1 (.seq (.sreg cX BA)
 (.cond (tm 18) .ret
 .skip)))
 (.sreg cW B5)))))),[]⟩
attribute [push_cast] cZ cY cX cW
theorem fp:bz Tryz.prog (fun _ _=>1) 149=some bS.raw:=by kernel_rfl
def fm:LSO:=[Am 2]
def fk:LSO:=[Aa 3 0,o1 4 (.call 125 [(.av (.sl [] 0 (some 0))),(tm 3)]),Aa 2 4]
def ev:bh:=⟨5,(.seq (.sreg fm [])
 (.seq (.sreg fk B5)
 .ret)),[(.tmp 2)]⟩
attribute [push_cast] fm fk
theorem mG:bz Tryz.prog (fun _ _=>1) 84=some ev.raw:=by kernel_rfl
def dh:LSO:=[A4 2 0,Am 4]
def dg:LSO:=[Aa 6 1]
def df:LSO:=[Aa 5 7]
def de:LSO:=[Ab 8 1 2,Aa 9 5,Bu 10 9,Bv 11 8 10,Ay 1 2 11]
def dd:LSO:=[Ab 12 1 2,Aa 4 12]
def bV:bh:=⟨13,(.seq (.sreg dh [])
 (.seq (.seq (.sreg dg [])
 (.block 0 (.rangeF (tm 6) [7] (.sreg df [])
 (.block 1 (.sreg de BE)))))
 (.seq (.sreg dd B4)
 .ret))),[(.tmp 4)]⟩
attribute [push_cast] dh dg df de dd
theorem fB:bz Tryz.prog (fun r i=>if r=3∧i=3 then 2 else 1) 125=some bV.raw:=by kernel_rfl
def ee:LSO:=[An 4]
def ed:LSO:=[Aa 6 0,Ae 7 6,Aa 8 1,Ae 9 8,Bg 10 7 9]
def d9:LSO:=[An 4]
def d8:LSO:=[Aa 11 0,Ae 12 11,Ac 13 0]
def d7:LSO:=[Al 14 13 12]
def d6:LSO:=[Aa 15 13,Aa 5 15]
def d5:LSO:=[Aa 16 0,Aa 17 5,Aj 18 1 16 17,Ab 19 1 18,Aa 20 1,Aa 21 5,Aj 22 1 20 21,Ab 23 1 22,Bg 24 19 23]
def dZ:LSO:=[An 4]
def dY:LSO:=[Ai 25 13 1,Aa 13 25]
def dX:LSO:=[AY 4]
def bd:bh:=⟨26,(.seq (.sreg ee [])
 (.seq (.seq (.sreg ed B7)
 (.cond (tm 10) (.seq (.sreg d9 [])
 .ret)
 .skip))
 (.seq (.seq (.sreg d8 BC)
 (.block 0 (.loop (.seq (.sreg d7 [])
 (.seq (.cond (tm 14) .skip
 (.exit 0))
 (.seq (.block 1 (.seq (.sreg d6 B4)
 (.seq (.sdreg d5 [.pure,.pure,(.read 0 0),(.read 0 0),.pure,.pure,(.read 0 0),(.read 0 0)] BF)
 (.cond (tm 24) (.seq (.sreg dZ [])
 .ret)
 .skip))))
 (.sreg dY B4)))))))
 (.seq (.sreg dX [])
 .ret)))),[(.tmp 4)]⟩
attribute [push_cast] ee ed d9 d8 d7 d6 d5 dZ dY dX
theorem dU:bz Tryz.prog (fun _ _=>1) 39=some bd.raw:=by kernel_rfl
end Go.Proofs.YtdhjplmjpjfjnaaGreat.Av
