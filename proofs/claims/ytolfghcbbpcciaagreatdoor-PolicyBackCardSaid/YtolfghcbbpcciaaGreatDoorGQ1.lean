/- Joined texts of the walk, made small by a program. -/
import Derived.Test.YtolfghcbbpcciaaGreatDoorGP5
import Derived.Test.YtolfghcbbpcciaaGreatDoorRows
import Derived.KernelRfl
import Derived.Test.YtolfghcbbpcciaaGreatDoorGE2
import Derived.Test.YtolfghcbbpcciaaGreatDoorGP4
set_option linter.unusedSimpArgs false
set_option linter.unusedVariables false
set_option maxRecDepth 100000
namespace Go.Proofs.YtolfghcbbpcciaaGreatDoor.Av
open Go
def tY:List ad :=
 [⟨(some 2),(.mv (.av (.bool false))),none⟩]
def tX:List ad :=
 [⟨(some 3),(.mv (tm 0)),none⟩,⟨(some 4),(.bin .geq (tm 3) (iv 0)),none⟩,⟨(some 5),(.mv (tm 4)),none⟩,⟨(some 6),(.mv (tm 0)),(some (5,true))⟩,
 ⟨(some 7),(.bin .leq (tm 6) (iv 9007199254740991)),(some (5,true))⟩,⟨(some 8),(.pick (tm 5) (tm 7) (.av (.bool false))),none⟩,⟨(some 2),(.mv (tm 8)),none⟩]
def lh:ba:=⟨9,(.seq (.region tY)
 (.seq (.region tX)
 .ret)),[(.tmp 2)]⟩
attribute [push_cast] tY tX
theorem Ja:bb Tryz.prog (fun _ _=>1) 26=some lh.raw:=by kernel_rfl
def pi:List ad :=
 [⟨(some 1),(.box (tm 0)),none⟩,⟨(some 2),(.mv (iv 0)),none⟩]
def ph:List ad :=
 [⟨(some 3),(.faddr 0 (tm 1)),none⟩,⟨(some 4),(.load false 1 (tm 3)),none⟩,⟨(some 5),(.bin .lss (tm 4) (iv 0)),none⟩,⟨(some 6),(.mv (tm 5)),none⟩,
 ⟨(some 7),(.faddr 0 (tm 1)),(some (6,false))⟩,⟨(some 8),(.load false 1 (tm 7)),(some (6,false))⟩,⟨(some 9),(.bin .gtr (tm 8) (iv 100)),(some (6,false))⟩,
 ⟨(some 10),(.pick (tm 6) (.av (.bool true)) (tm 9)),none⟩,⟨(some 11),(.mv (tm 10)),none⟩,⟨(some 12),(.faddr 1 (tm 1)),(some (11,false))⟩,
 ⟨(some 13),(.load false 1 (tm 12)),(some (11,false))⟩,⟨(some 14),(.call 26 [(tm 13)]),(some (11,false))⟩,⟨(some 15),(.un .not (tm 14)),(some (11,false))⟩,
 ⟨(some 16),(.pick (tm 11) (.av (.bool true)) (tm 15)),none⟩,⟨(some 17),(.mv (tm 16)),none⟩,⟨(some 18),(.faddr 2 (tm 1)),(some (17,false))⟩,
 ⟨(some 19),(.load false 1 (tm 18)),(some (17,false))⟩,⟨(some 20),(.call 26 [(tm 19)]),(some (17,false))⟩,⟨(some 21),(.un .not (tm 20)),(some (17,false))⟩,
 ⟨(some 22),(.pick (tm 17) (.av (.bool true)) (tm 21)),none⟩,⟨(some 23),(.mv (tm 22)),none⟩,⟨(some 24),(.faddr 3 (tm 1)),(some (23,false))⟩,
 ⟨(some 25),(.load false 1 (tm 24)),(some (23,false))⟩,⟨(some 26),(.call 26 [(tm 25)]),(some (23,false))⟩,⟨(some 27),(.un .not (tm 26)),(some (23,false))⟩,
 ⟨(some 28),(.pick (tm 23) (.av (.bool true)) (tm 27)),none⟩]
def pg:List ad :=
 [⟨(some 2),(.mv (iv 2)),none⟩]
def pc:List ad :=
 [⟨(some 2),(.mv (iv 0)),none⟩]
def jI:ba:=⟨29,(.seq (.region pi)
 (.seq (.seq (.region ph)
 (.cond (tm 28) (.seq (.region pg)
 .ret)
 .skip))
 (.seq (.region pc)
 .ret))),[(.tmp 2)]⟩
attribute [push_cast] pi ph pg pc
theorem Iw:bb Tryz.prog (fun _ _=>1) 18=some jI.raw:=by kernel_rfl
def oV:List ad :=
 [⟨(some 1),(.box (tm 0)),none⟩,⟨(some 2),(.mv (.av (.bool false))),none⟩]
def oU:List ad :=
 [⟨(some 5),(.faddr 0 (tm 1)),none⟩,⟨(some 6),(.load false 1 (tm 5)),none⟩,⟨(some 7),(.len false (tm 6)),none⟩,⟨(some 8),(.mv (iv 0)),none⟩]
def oT:List ad :=
 [⟨(some 9),(.bin .lss (tm 8) (tm 7)),none⟩]
def oS:List ad :=
 [⟨(some 10),(.mv (tm 8)),none⟩,⟨(some 11),(.iaddr 1 (tm 6) (tm 8)),none⟩,⟨(some 12),(.load false 1 (tm 11)),none⟩,⟨(some 3),(.mv (tm 10)),none⟩,⟨(some 4),(.mv (tm 12)),none⟩]
def oR:List ad :=
 [⟨(some 13),(.mv (tm 4)),none⟩,⟨(some 14),(.call 26 [(tm 13)]),none⟩,⟨(some 15),(.un .not (tm 14)),none⟩,⟨(some 16),(.mv (tm 15)),none⟩,
 ⟨(some 17),(.mv (tm 3)),(some (16,false))⟩,⟨(some 18),(.bin .gtr (tm 17) (iv 0)),(some (16,false))⟩,⟨(some 19),(.mv (tm 18)),(some (16,false))⟩,
 ⟨(some 20),(.faddr 0 (tm 1)),(some (19,true))⟩,⟨(some 21),(.load false 1 (tm 20)),(some (19,true))⟩,⟨(some 22),(.mv (tm 3)),(some (19,true))⟩,
 ⟨(some 23),(.bin .sub (tm 22) (iv 1)),(some (19,true))⟩,⟨(some 24),(.iaddr 1 (tm 21) (tm 23)),(some (19,true))⟩,⟨(some 25),(.load false 1 (tm 24)),(some (19,true))⟩,
 ⟨(some 26),(.mv (tm 4)),(some (19,true))⟩,⟨(some 27),(.bin .gtr (tm 25) (tm 26)),(some (19,true))⟩,⟨(some 28),(.pick (tm 19) (tm 27) (.av (.bool false))),(some (16,false))⟩,
 ⟨(some 29),(.pick (tm 16) (.av (.bool true)) (tm 28)),none⟩]
def oQ:List ad :=
 [⟨(some 2),(.mv (.av (.bool false))),none⟩]
def oP:List ad :=
 [⟨(some 30),(.bin .add (tm 8) (iv 1)),none⟩,⟨(some 8),(.mv (tm 30)),none⟩]
def oO:List ad :=
 [⟨(some 31),(.faddr 0 (tm 1)),none⟩,⟨(some 32),(.load false 1 (tm 31)),none⟩,⟨(some 33),(.len false (tm 32)),none⟩,⟨(some 34),(.bin .leq (tm 33) (iv 100)),none⟩,
 ⟨(some 35),(.mv (tm 34)),none⟩,⟨(some 36),(.faddr 1 (tm 1)),(some (35,true))⟩,⟨(some 37),(.load false 1 (tm 36)),(some (35,true))⟩,
 ⟨(some 38),(.bin .eql (tm 37) (iv (-1))),(some (35,true))⟩,⟨(some 39),(.mv (tm 38)),(some (35,true))⟩,⟨(some 40),(.faddr 1 (tm 1)),(some (39,false))⟩,
 ⟨(some 41),(.load false 1 (tm 40)),(some (39,false))⟩,⟨(some 42),(.call 26 [(tm 41)]),(some (39,false))⟩,⟨(some 43),(.pick (tm 39) (.av (.bool true)) (tm 42)),(some (35,true))⟩,
 ⟨(some 44),(.pick (tm 35) (tm 43) (.av (.bool false))),none⟩,⟨(some 45),(.mv (tm 44)),none⟩,⟨(some 46),(.faddr 2 (tm 1)),(some (45,true))⟩,
 ⟨(some 47),(.load false 1 (tm 46)),(some (45,true))⟩,⟨(some 48),(.call 26 [(tm 47)]),(some (45,true))⟩,⟨(some 49),(.pick (tm 45) (tm 48) (.av (.bool false))),none⟩,
 ⟨(some 2),(.mv (tm 49)),none⟩]
def fg:ba:=⟨50,(.seq (.region oV)
 (.seq (.seq (.region oU)
 (.block 0 (.loop (.seq (.region oT)
 (.seq (.cond (tm 9) .skip
 (.exit 0))
 (.seq (.block 1 (.seq (.region oS)
 (.seq (.region oR)
 (.cond (tm 29) (.seq (.region oQ)
 .ret)
 .skip))))
 (.region oP)))))))
 (.seq (.region oO)
 .ret))),[(.tmp 2)]⟩
attribute [push_cast] oV oU oT oS oR oQ oP oO
theorem kP:bb Tryz.prog (fun _ _=>1) 13=some fg.raw:=by kernel_rfl
def zh:List ad :=
 [⟨(some 2),(.alloc [(.sl [] 0 (some 0)),(.int .i64 0),(.int .i64 0)]),none⟩]
def zg:List ad :=
 [⟨(some 3),(.mv (tm 0)),none⟩,⟨(some 4),(.build [(.sl [] 0 (some 0)),(.int .i64 0),(.int .i64 0)] [(1,(1,(iv (-1)))),(2,(1,(tm 3)))]),none⟩,⟨none,(.store 3 (tm 2) (tm 4)),none⟩]
def qj:ba:=⟨5,(.seq (.region zh)
 (.seq (.region zg)
 .ret)),[(.cell true 3 2)]⟩
attribute [push_cast] zh zg
theorem Kn:bb Tryz.prog (fun _ _=>1) 17=some qj.raw:=by kernel_rfl
def G5:List ad :=
 [⟨(some 1),(.box (tm 0)),none⟩,⟨(some 2),(.alloc [(.sl [] 0 (some 0)),(.int .i64 0),(.int .i64 0)]),none⟩]
def G4:List ad :=
 [⟨(some 3),(.faddr 0 (tm 1)),none⟩,⟨(some 4),(.load false 1 (tm 3)),none⟩,⟨(some 5),(.faddr 1 (tm 1)),none⟩,⟨(some 6),(.load false 1 (tm 5)),none⟩,
 ⟨(some 7),(.faddr 2 (tm 1)),none⟩,⟨(some 8),(.load false 1 (tm 7)),none⟩,
 ⟨(some 9),(.build [(.sl [] 0 (some 0)),(.int .i64 0),(.int .i64 0)] [(0,(1,(tm 4))),(1,(1,(tm 6))),(2,(1,(tm 8)))]),none⟩,⟨none,(.store 3 (tm 2) (tm 9)),none⟩]
def Gd:ba:=⟨10,(.seq (.region G5)
 (.seq (.region G4)
 .ret)),[(.cell true 3 2)]⟩
attribute [push_cast] G5 G4
theorem Mv:bb Tryz.prog (fun _ _=>1) 10=some Gd.raw:=by kernel_rfl
def zf:List ad :=
 [⟨(some 4),(.box (tm 0)),none⟩,⟨(some 5),(.box (tm 1)),none⟩,⟨(some 6),(.box (tm 2)),none⟩,⟨(some 8),(.alloc [(.sl [] 0 (some 0)),(.int .i64 0),(.int .i64 0)]),none⟩,
 ⟨(some 9),(.mv (iv 0)),none⟩]
def ze:List ad :=
 [⟨(some 13),(.faddr 0 (tm 5)),none⟩,⟨(some 14),(.load false 1 (tm 13)),none⟩,⟨(some 15),(.call 32 [(tm 14)]),none⟩,⟨(some 16),(.faddr 0 (tm 5)),none⟩,
 ⟨none,(.store 1 (tm 16) (tm 15)),none⟩]
def zd:List ad :=
 [⟨(some 18),(.load true 4 (tm 4)),none⟩,⟨(some 19),(.call 18 [(tm 18)]),none⟩,⟨(some 20),(.bin .neq (tm 19) (iv 0)),none⟩,⟨(some 21),(.mv (tm 20)),none⟩,
 ⟨(some 22),(.load true 3 (tm 5)),(some (21,false))⟩,⟨(some 23),(.call 13 [(tm 22)]),(some (21,false))⟩,⟨(some 24),(.un .not (tm 23)),(some (21,false))⟩,
 ⟨(some 25),(.pick (tm 21) (.av (.bool true)) (tm 24)),none⟩,⟨(some 26),(.mv (tm 25)),none⟩,⟨(some 27),(.load false 1 (tm 6)),(some (26,false))⟩,
 ⟨(some 28),(.call 26 [(tm 27)]),(some (26,false))⟩,⟨(some 29),(.un .not (tm 28)),(some (26,false))⟩,⟨(some 30),(.pick (tm 26) (.av (.bool true)) (tm 29)),none⟩,
 ⟨(some 17),(.mv (tm 30)),none⟩]
def zc:List ad :=
 [⟨(some 31),(.load true 3 (tm 5)),none⟩,⟨none,(.store 3 (tm 8) (tm 31)),none⟩,⟨(some 9),(.mv (iv 1)),none⟩]
def zb:List ad :=
 [⟨(some 33),(.faddr 1 (tm 5)),none⟩,⟨(some 34),(.load false 1 (tm 33)),none⟩,⟨(some 35),(.bin .geq (tm 34) (iv 0)),none⟩,⟨(some 36),(.mv (tm 35)),none⟩,
 ⟨(some 37),(.faddr 2 (tm 4)),(some (36,true))⟩,⟨(some 38),(.load false 1 (tm 37)),(some (36,true))⟩,⟨(some 39),(.bin .eql (tm 38) (iv 0)),(some (36,true))⟩,
 ⟨(some 40),(.mv (tm 39)),(some (36,true))⟩,⟨(some 41),(.load false 1 (tm 6)),(some (40,false))⟩,⟨(some 42),(.faddr 1 (tm 5)),(some (40,false))⟩,
 ⟨(some 43),(.load false 1 (tm 42)),(some (40,false))⟩,⟨(some 44),(.bin .sub (tm 41) (tm 43)),(some (40,false))⟩,⟨(some 45),(.faddr 2 (tm 4)),(some (40,false))⟩,
 ⟨(some 46),(.load false 1 (tm 45)),(some (40,false))⟩,⟨(some 47),(.bin .lss (tm 44) (tm 46)),(some (40,false))⟩,
 ⟨(some 48),(.pick (tm 40) (.av (.bool true)) (tm 47)),(some (36,true))⟩,⟨(some 49),(.pick (tm 36) (tm 48) (.av (.bool false))),none⟩,⟨(some 32),(.mv (tm 49)),none⟩]
def za:List ad :=
 [⟨(some 50),(.load true 3 (tm 5)),none⟩,⟨none,(.store 3 (tm 8) (tm 50)),none⟩,⟨(some 9),(.mv (iv 2)),none⟩]
def y9:List ad :=
 [⟨(some 52),(.mv (tm 3)),none⟩,⟨(some 53),(.mv (tm 52)),none⟩,⟨(some 54),(.faddr 3 (tm 4)),(some (53,true))⟩,⟨(some 55),(.load false 1 (tm 54)),(some (53,true))⟩,
 ⟨(some 56),(.bin .gtr (tm 55) (iv 0)),(some (53,true))⟩,⟨(some 57),(.pick (tm 53) (tm 56) (.av (.bool false))),none⟩,⟨(some 58),(.mv (tm 57)),none⟩,
 ⟨(some 59),(.load false 1 (tm 6)),(some (58,true))⟩,⟨(some 60),(.faddr 2 (tm 5)),(some (58,true))⟩,⟨(some 61),(.load false 1 (tm 60)),(some (58,true))⟩,
 ⟨(some 62),(.bin .sub (tm 59) (tm 61)),(some (58,true))⟩,⟨(some 63),(.faddr 3 (tm 4)),(some (58,true))⟩,⟨(some 64),(.load false 1 (tm 63)),(some (58,true))⟩,
 ⟨(some 65),(.bin .geq (tm 62) (tm 64)),(some (58,true))⟩,⟨(some 66),(.pick (tm 58) (tm 65) (.av (.bool false))),none⟩,⟨(some 51),(.mv (tm 66)),none⟩]
def y8:List ad :=
 [⟨(some 67),(.load true 3 (tm 5)),none⟩,⟨none,(.store 3 (tm 8) (tm 67)),none⟩,⟨(some 9),(.mv (iv 3)),none⟩]
def y7:List ad :=
 [⟨(some 69),(.mv (tm 3)),none⟩,⟨(some 68),(.mv (tm 69)),none⟩]
def y6:List ad :=
 [⟨(some 70),(.faddr 2 (tm 5)),none⟩,⟨(some 71),(.load false 1 (tm 70)),none⟩,
 ⟨(some 72),(.build [(.sl [] 0 (some 0)),(.int .i64 0),(.int .i64 0)] [(1,(1,(iv (-1)))),(2,(1,(tm 71)))]),none⟩,⟨none,(.store 3 (tm 8) (tm 72)),none⟩,
 ⟨(some 9),(.mv (iv 0)),none⟩]
def uh:List ad :=
 [⟨(some 73),(.faddr 2 (tm 5)),none⟩,⟨(some 74),(.load false 1 (tm 73)),none⟩,
 ⟨(some 75),(.build [(.sl [] 0 (some 0)),(.int .i64 0),(.int .i64 0)] [(1,(1,(iv (-1)))),(2,(1,(tm 74)))]),none⟩,
 ⟨(some 10),(.alloc [(.sl [] 0 (some 0)),(.int .i64 0),(.int .i64 0)]),none⟩,⟨none,(.store 3 (tm 10) (tm 75)),none⟩]
def ug:List ad :=
 [⟨(some 76),(.faddr 1 (tm 5)),none⟩,⟨(some 77),(.load false 1 (tm 76)),none⟩,⟨(some 78),(.bin .lss (tm 77) (iv 0)),none⟩]
def uf:List ad :=
 [⟨(some 79),(.faddr 0 (tm 5)),none⟩,⟨(some 80),(.load false 1 (tm 79)),none⟩,⟨(some 81),(.mkfn 34 [(tm 4),(tm 6)]),none⟩,⟨(some 82),(.call 33 [(tm 80),(tm 81)]),none⟩,
 ⟨(some 83),(.faddr 0 (tm 10)),none⟩,⟨none,(.store 1 (tm 83) (tm 82)),none⟩]
def ue:List ad :=
 [⟨(some 85),(.faddr 0 (tm 10)),none⟩,⟨(some 86),(.load false 1 (tm 85)),none⟩,⟨(some 87),(.load false 1 (tm 6)),none⟩,⟨(some 88),(.call 35 [(tm 86),(tm 87)]),none⟩,
 ⟨(some 84),(.mv (tm 88)),none⟩,⟨(some 89),(.extract (tm 84) 0),none⟩,⟨(some 90),(.extract (tm 84) 1),none⟩,⟨(some 11),(.mv (tm 89)),none⟩,⟨(some 12),(.mv (tm 90)),none⟩]
def ud:List ad :=
 [⟨(some 91),(.faddr 0 (tm 10)),none⟩,⟨(some 92),(.load false 1 (tm 91)),none⟩,⟨(some 93),(.mv (tm 11)),none⟩,⟨(some 94),(.load false 1 (tm 6)),none⟩,
 ⟨(some 95),(.bslice false 1 1 [(.int .i64 0)] [(0,(1,(tm 94)))]),none⟩,⟨(some 96),(.call 36 [(tm 92),(tm 93),(tm 95)]),none⟩,⟨(some 97),(.faddr 0 (tm 10)),none⟩,
 ⟨none,(.store 1 (tm 97) (tm 96)),none⟩]
def uc:List ad :=
 [⟨(some 98),(.faddr 0 (tm 10)),none⟩,⟨(some 99),(.load false 1 (tm 98)),none⟩,⟨(some 100),(.len false (tm 99)),none⟩,⟨(some 101),(.bin .gtr (tm 100) (iv 100)),none⟩]
def ub:List ad :=
 [⟨(some 102),(.faddr 0 (tm 10)),none⟩,⟨(some 103),(.load false 1 (tm 102)),none⟩,⟨(some 104),(.slV 1 (tm 103) (some (iv 1)) none none),none⟩,
 ⟨(some 105),(.faddr 0 (tm 10)),none⟩,⟨none,(.store 1 (tm 105) (tm 104)),none⟩]
def ua:List ad :=
 [⟨(some 106),(.faddr 0 (tm 4)),none⟩,⟨(some 107),(.load false 1 (tm 106)),none⟩,⟨(some 108),(.bin .gtr (tm 107) (iv 0)),none⟩,⟨(some 109),(.mv (tm 108)),none⟩,
 ⟨(some 110),(.faddr 0 (tm 10)),(some (109,true))⟩,⟨(some 111),(.load false 1 (tm 110)),(some (109,true))⟩,⟨(some 112),(.len false (tm 111)),(some (109,true))⟩,
 ⟨(some 113),(.faddr 0 (tm 4)),(some (109,true))⟩,⟨(some 114),(.load false 1 (tm 113)),(some (109,true))⟩,⟨(some 115),(.bin .geq (tm 112) (tm 114)),(some (109,true))⟩,
 ⟨(some 116),(.pick (tm 109) (tm 115) (.av (.bool false))),none⟩]
def t8:List ad :=
 [⟨(some 117),(.load false 1 (tm 6)),none⟩,⟨(some 118),(.faddr 2 (tm 5)),none⟩,⟨(some 119),(.load false 1 (tm 118)),none⟩,
 ⟨(some 120),(.build [(.sl [] 0 (some 0)),(.int .i64 0),(.int .i64 0)] [(1,(1,(tm 117))),(2,(1,(tm 119)))]),none⟩,⟨none,(.store 3 (tm 8) (tm 120)),none⟩,
 ⟨(some 9),(.mv (iv 1)),none⟩]
def t7:List ad :=
 [⟨(some 121),(.load true 3 (tm 10)),none⟩,⟨none,(.store 3 (tm 8) (tm 121)),none⟩,⟨(some 9),(.mv (iv 1)),none⟩]
def gq:ba:=⟨122,(.seq (.region zf)
 (.seq (.region ze)
 (.seq (.block 0 (.seq (.region zd)
 (.cond (tm 17) (.seq (.region zc)
 .ret)
 (.seq (.region zb)
 (.cond (tm 32) (.seq (.region za)
 .ret)
 (.seq (.region y9)
 (.cond (tm 51) (.seq (.region y8)
 .ret)
 (.seq (.region y7)
 (.cond (tm 68) (.seq (.region y6)
 .ret)
 .skip)))))))))
 (.seq (.region uh)
 (.seq (.seq (.region ug)
 (.cond (tm 78) (.region uf)
 .skip))
 (.seq (.region ue)
 (.seq (.region ud)
 (.seq (.seq (.region uc)
 (.cond (tm 101) (.region ub)
 .skip))
 (.seq (.seq (.region ua)
 (.cond (tm 116) (.seq (.region t8)
 .ret)
 .skip))
 (.seq (.region t7)
 .ret)))))))))),[(.cell true 3 8),(.tmp 9)]⟩
attribute [push_cast] zf ze zd zc zb za y9 y8 y7 y6 uh ug uf ue ud uc ub ua t8 t7
theorem vc:bb Tryz.prog (fun _ _=>1) 16=some gq.raw:=by kernel_rfl
def oN:List ad :=
 [⟨(some 4),(.mv (.av (.bool false))),none⟩]
def oM:List ad :=
 [⟨(some 5),(.faddr 1 (tm 1)),none⟩,⟨(some 6),(.load false 1 (tm 5)),none⟩,⟨(some 7),(.bin .gtr (tm 6) (iv 0)),none⟩,⟨(some 8),(.mv (tm 7)),none⟩,
 ⟨(some 9),(.load false 1 (tm 2)),(some (8,true))⟩,⟨(some 10),(.mv (tm 0)),(some (8,true))⟩,⟨(some 11),(.bin .sub (tm 9) (tm 10)),(some (8,true))⟩,
 ⟨(some 12),(.faddr 1 (tm 1)),(some (8,true))⟩,⟨(some 13),(.load false 1 (tm 12)),(some (8,true))⟩,⟨(some 14),(.bin .geq (tm 11) (tm 13)),(some (8,true))⟩,
 ⟨(some 15),(.pick (tm 8) (tm 14) (.av (.bool false))),none⟩,⟨(some 4),(.mv (tm 15)),none⟩]
def jH:ba:=⟨16,(.seq (.region oN)
 (.seq (.region oM)
 .ret)),[(.tmp 4)]⟩
attribute [push_cast] oN oM
theorem Iv:bb Tryz.prog (fun _ _=>1) 34=some jH.raw:=by kernel_rfl
def eI:List ad :=
 [⟨(some 2),(.mv (.av (.sl [] 0 (some 0)))),none⟩]
def eH:List ad :=
 [⟨(some 3),(.mv (tm 0)),none⟩,⟨(some 4),(.slnil false (tm 3)),none⟩]
def eG:List ad :=
 [⟨(some 2),(.mv (.av (.sl [] 0 (some 0)))),none⟩]
def eF:List ad :=
 [⟨(some 5),(.bslice false 1 0 [] []),none⟩,⟨(some 6),(.mv (tm 0)),none⟩,⟨(some 7),(.app 2 1 8 [(.int .i64 0)] (tm 5) (tm 6)),none⟩,⟨(some 2),(.mv (tm 7)),none⟩]
def bJ:ba:=⟨8,(.seq (.region eI)
 (.seq (.seq (.region eH)
 (.cond (tm 4) (.seq (.region eG)
 .ret)
 .skip))
 (.seq (.region eF)
 .ret))),[(.tmp 2)]⟩
attribute [push_cast] eI eH eG eF
theorem eC:bb Tryz.prog (fun r i=>if r=3∧i=2 then 2 else 1) 32=some bJ.raw:=by kernel_rfl
def dr:List ad :=
 [⟨(some 4),(.mv (.av (.sl [] 0 (some 0)))),none⟩]
def dq:List ad :=
 [⟨(some 8),(.mv (tm 0)),none⟩,⟨(some 9),(.mv (tm 1)),none⟩,⟨(some 10),(.call 50 [(tm 8),(tm 9)]),none⟩,⟨(some 5),(.mv (tm 10)),none⟩]
def dp:List ad :=
 [⟨(some 11),(.mv (tm 5)),none⟩,⟨(some 12),(.bin .eql (tm 11) (iv (-1))),none⟩]
def dm:List ad :=
 [⟨(some 13),(.mv (tm 0)),none⟩,⟨(some 4),(.mv (tm 13)),none⟩]
def dl:List ad :=
 [⟨(some 14),(.mv (tm 5)),none⟩,⟨(some 15),(.bin .add (tm 14) (iv 1)),none⟩,⟨(some 6),(.mv (tm 15)),none⟩]
def dk:List ad :=
 [⟨(some 16),(.mv (tm 6)),none⟩,⟨(some 17),(.mv (tm 0)),none⟩,⟨(some 18),(.len false (tm 17)),none⟩,⟨(some 19),(.bin .lss (tm 16) (tm 18)),none⟩]
def dj:List ad :=
 [⟨(some 22),(.mv (tm 0)),none⟩,⟨(some 23),(.mv (tm 6)),none⟩,⟨(some 24),(.iaddr 1 (tm 22) (tm 23)),none⟩,⟨(some 25),(.load false 1 (tm 24)),none⟩,⟨(some 7),(.mv (tm 25)),none⟩]
def di:List ad :=
 [⟨(some 26),(.mv (tm 1)),none⟩,⟨(some 27),(.mv (tm 7)),none⟩,⟨(some 28),(.callv (tm 26) [(tm 27)]),none⟩,⟨(some 29),(.un .not (tm 28)),none⟩]
def dh:List ad :=
 [⟨(some 30),(.mv (tm 0)),none⟩,⟨(some 31),(.mv (tm 5)),none⟩,⟨(some 32),(.mv (tm 7)),none⟩,⟨(some 33),(.iaddr 1 (tm 30) (tm 31)),none⟩,⟨none,(.store 1 (tm 33) (tm 32)),none⟩]
def df:List ad :=
 [⟨(some 34),(.mv (tm 5)),none⟩,⟨(some 35),(.bin .add (tm 34) (iv 1)),none⟩,⟨(some 5),(.mv (tm 35)),none⟩]
def c8:List ad :=
 [⟨(some 20),(.mv (tm 6)),none⟩,⟨(some 21),(.bin .add (tm 20) (iv 1)),none⟩,⟨(some 6),(.mv (tm 21)),none⟩]
def c7:List ad :=
 [⟨(some 36),(.mv (tm 0)),none⟩,⟨(some 37),(.mv (tm 5)),none⟩,⟨(some 38),(.slV 1 (tm 36) (some (tm 37)) none none),none⟩,⟨none,(.clear 1 [(.int .i64 0)] (tm 38)),none⟩]
def cZ:List ad :=
 [⟨(some 39),(.mv (tm 0)),none⟩,⟨(some 40),(.mv (tm 5)),none⟩,⟨(some 41),(.slV 1 (tm 39) none (some (tm 40)) none),none⟩,⟨(some 4),(.mv (tm 41)),none⟩]
def bh:ba:=⟨42,(.seq (.region dr)
 (.seq (.region dq)
 (.seq (.seq (.region dp)
 (.cond (tm 12) (.seq (.region dm)
 .ret)
 .skip))
 (.seq (.seq (.region dl)
 (.block 0 (.loop (.seq (.seq (.region dk)
 (.cond (tm 19) .skip
 (.exit 0)))
 (.seq (.block 1 (.seq (.region dj)
 (.seq (.region di)
 (.cond (tm 29) (.seq (.region dh)
 (.region df))
 .skip))))
 (.region c8))))))
 (.seq (.region c7)
 (.seq (.region cZ)
 .ret)))))),[(.tmp 4)]⟩
attribute [push_cast] dr dq dp dm dl dk dj di dh df c8 c7 cZ
theorem dc:bb Tryz.prog (fun _ _=>1) 33=some bh.raw:=by kernel_rfl
def cV:List ad :=
 [⟨(some 4),(.mv (iv 0)),none⟩,⟨(some 5),(.mv (.av (.bool false))),none⟩]
def cU:List ad :=
 [⟨(some 10),(.mv (tm 0)),none⟩,⟨(some 11),(.len false (tm 10)),none⟩,⟨(some 6),(.mv (tm 11)),none⟩]
def cT:List ad :=
 [⟨(some 12),(.mv (tm 6)),none⟩,⟨(some 7),(.mv (iv 0)),none⟩,⟨(some 8),(.mv (tm 12)),none⟩]
def cS:List ad :=
 [⟨(some 13),(.mv (tm 7)),none⟩,⟨(some 14),(.mv (tm 8)),none⟩,⟨(some 15),(.bin .lss (tm 13) (tm 14)),none⟩]
def cR:List ad :=
 [⟨(some 16),(.mv (tm 7)),none⟩,⟨(some 17),(.mv (tm 8)),none⟩,⟨(some 18),(.bin .add (tm 16) (tm 17)),none⟩,⟨(some 19),(.conv .u64 (tm 18)),none⟩,
 ⟨(some 20),(.bin .shr (tm 19) (.av (.int .u64 1))),none⟩,⟨(some 21),(.conv .i64 (tm 20)),none⟩,⟨(some 9),(.mv (tm 21)),none⟩]
def cQ:List ad :=
 [⟨(some 22),(.mv (tm 0)),none⟩,⟨(some 23),(.mv (tm 9)),none⟩,⟨(some 24),(.iaddr 1 (tm 22) (tm 23)),none⟩,⟨(some 25),(.load false 1 (tm 24)),none⟩,⟨(some 26),(.mv (tm 1)),none⟩,
 ⟨(some 27),(.call 51 [(tm 25),(tm 26)]),none⟩]
def cP:List ad :=
 [⟨(some 28),(.mv (tm 9)),none⟩,⟨(some 29),(.bin .add (tm 28) (iv 1)),none⟩,⟨(some 7),(.mv (tm 29)),none⟩]
def cO:List ad :=
 [⟨(some 30),(.mv (tm 9)),none⟩,⟨(some 8),(.mv (tm 30)),none⟩]
def cN:List ad :=
 [⟨(some 31),(.mv (tm 7)),none⟩,⟨(some 32),(.mv (tm 7)),none⟩,⟨(some 33),(.mv (tm 6)),none⟩,⟨(some 34),(.bin .lss (tm 32) (tm 33)),none⟩,⟨(some 35),(.mv (tm 34)),none⟩,
 ⟨(some 36),(.mv (tm 0)),(some (35,true))⟩,⟨(some 37),(.mv (tm 7)),(some (35,true))⟩,⟨(some 38),(.iaddr 1 (tm 36) (tm 37)),(some (35,true))⟩,
 ⟨(some 39),(.load false 1 (tm 38)),(some (35,true))⟩,⟨(some 40),(.mv (tm 1)),(some (35,true))⟩,⟨(some 41),(.bin .eql (tm 39) (tm 40)),(some (35,true))⟩,
 ⟨(some 42),(.mv (tm 41)),(some (35,true))⟩,⟨(some 43),(.mv (tm 0)),(some (42,false))⟩,⟨(some 44),(.mv (tm 7)),(some (42,false))⟩,
 ⟨(some 45),(.iaddr 1 (tm 43) (tm 44)),(some (42,false))⟩,⟨(some 46),(.load false 1 (tm 45)),(some (42,false))⟩,⟨(some 47),(.call 52 [(tm 46)]),(some (42,false))⟩,
 ⟨(some 48),(.mv (tm 47)),(some (42,false))⟩,⟨(some 49),(.mv (tm 1)),(some (48,true))⟩,⟨(some 50),(.call 52 [(tm 49)]),(some (48,true))⟩,
 ⟨(some 51),(.pick (tm 48) (tm 50) (.av (.bool false))),(some (42,false))⟩,⟨(some 52),(.pick (tm 42) (.av (.bool true)) (tm 51)),(some (35,true))⟩,
 ⟨(some 53),(.pick (tm 35) (tm 52) (.av (.bool false))),none⟩,⟨(some 4),(.mv (tm 31)),none⟩,⟨(some 5),(.mv (tm 53)),none⟩]
def bd:ba:=⟨54,(.seq (.region cV)
 (.seq (.region cU)
 (.seq (.region cT)
 (.seq (.block 0 (.loop (.seq (.seq (.region cS)
 (.cond (tm 15) .skip
 (.exit 0)))
 (.block 1 (.seq (.region cR)
 (.seq (.region cQ)
 (.cond (tm 27) (.region cP)
 (.region cO))))))))
 (.seq (.region cN)
 .ret))))),[(.tmp 4),(.tmp 5)]⟩
attribute [push_cast] cV cU cT cS cR cQ cP cO cN
theorem cG:bb Tryz.prog (fun _ _=>1) 35=some bd.raw:=by kernel_rfl
def eA:List ad :=
 [⟨(some 6),(.mv (.av (.sl [] 0 (some 0)))),none⟩]
def ez:List ad :=
 [⟨(some 10),(.mv (tm 0)),none⟩,⟨(some 11),(.mv (tm 1)),none⟩,⟨(some 12),(.slV 1 (tm 10) (some (tm 11)) none none),none⟩]
def eu:List ad :=
 [⟨(some 13),(.mv (tm 2)),none⟩,⟨(some 14),(.len false (tm 13)),none⟩,⟨(some 7),(.mv (tm 14)),none⟩]
def er:List ad :=
 [⟨(some 15),(.mv (tm 7)),none⟩,⟨(some 16),(.bin .eql (tm 15) (iv 0)),none⟩]
def eo:List ad :=
 [⟨(some 17),(.mv (tm 0)),none⟩,⟨(some 6),(.mv (tm 17)),none⟩]
def em:List ad :=
 [⟨(some 18),(.mv (tm 0)),none⟩,⟨(some 19),(.len false (tm 18)),none⟩,⟨(some 8),(.mv (tm 19)),none⟩]
def ek:List ad :=
 [⟨(some 20),(.mv (tm 1)),none⟩,⟨(some 21),(.mv (tm 8)),none⟩,⟨(some 22),(.bin .eql (tm 20) (tm 21)),none⟩]
def eh:List ad :=
 [⟨(some 23),(.mv (tm 0)),none⟩,⟨(some 24),(.mv (tm 2)),none⟩,⟨(some 25),(.app 2 1 8 [(.int .i64 0)] (tm 23) (tm 24)),none⟩,⟨(some 6),(.mv (tm 25)),none⟩]
def eg:List ad :=
 [⟨(some 26),(.mv (tm 8)),none⟩,⟨(some 27),(.mv (tm 7)),none⟩,⟨(some 28),(.bin .add (tm 26) (tm 27)),none⟩,⟨(some 29),(.mv (tm 0)),none⟩,⟨(some 30),(.cap (tm 29)),none⟩,
 ⟨(some 31),(.bin .gtr (tm 28) (tm 30)),none⟩]
def ef:List ad :=
 [⟨(some 32),(.mv (tm 0)),none⟩,⟨(some 33),(.mv (tm 1)),none⟩,⟨(some 34),(.slV 1 (tm 32) none (some (tm 33)) none),none⟩,⟨(some 35),(.mv (tm 8)),none⟩,
 ⟨(some 36),(.mv (tm 7)),none⟩,⟨(some 37),(.bin .add (tm 35) (tm 36)),none⟩,⟨(some 38),(.mv (tm 1)),none⟩,⟨(some 39),(.bin .sub (tm 37) (tm 38)),none⟩,
 ⟨(some 40),(.appz 1 8 [(.int .i64 0)] (tm 34) (tm 39)),none⟩,⟨(some 9),(.mv (tm 40)),none⟩]
def dY:List ad :=
 [⟨(some 41),(.mv (tm 9)),none⟩,⟨(some 42),(.mv (tm 1)),none⟩,⟨(some 43),(.slV 1 (tm 41) (some (tm 42)) none none),none⟩,⟨(some 44),(.mv (tm 2)),none⟩,
 ⟨(some 45),(.copy 1 (tm 43) (tm 44)),none⟩]
def dX:List (ad×Kd) :=
 [A4 46 9,A4 47 1,A4 48 7,B7 49 47 48,B9 50 46 49 0 0,A4 51 0,A4 52 1,B9 53 51 52 0 0]
def dL:List ad :=
 [⟨(some 54),(.copy 1 (tm 50) (tm 53)),none⟩]
def dW:List ad :=
 [⟨(some 55),(.mv (tm 9)),none⟩,⟨(some 6),(.mv (tm 55)),none⟩]
def dV:List ad :=
 [⟨(some 56),(.mv (tm 0)),none⟩,⟨(some 57),(.mv (tm 8)),none⟩,⟨(some 58),(.mv (tm 7)),none⟩,⟨(some 59),(.bin .add (tm 57) (tm 58)),none⟩,
 ⟨(some 60),(.slV 1 (tm 56) none (some (tm 59)) none),none⟩,⟨(some 0),(.mv (tm 60)),none⟩]
def dU:List ad :=
 [⟨(some 61),(.mv (tm 2)),none⟩,⟨(some 62),(.mv (tm 0)),none⟩,⟨(some 63),(.mv (tm 1)),none⟩,⟨(some 64),(.mv (tm 7)),none⟩,⟨(some 65),(.bin .add (tm 63) (tm 64)),none⟩,
 ⟨(some 66),(.slV 1 (tm 62) (some (tm 65)) none none),none⟩,⟨(some 67),(.call 53 [(tm 61),(tm 66)]),none⟩,⟨(some 68),(.un .not (tm 67)),none⟩]
def dT:List (ad×Kd) :=
 [A4 69 0,A4 70 1,A4 71 7,B7 72 70 71,B9 73 69 72 0 0,A4 74 0,A4 75 1,B9 76 74 75 0 0]
def dK:List ad :=
 [⟨(some 77),(.copy 1 (tm 73) (tm 76)),none⟩]
def dS:List ad :=
 [⟨(some 78),(.mv (tm 0)),none⟩,⟨(some 79),(.mv (tm 1)),none⟩,⟨(some 80),(.slV 1 (tm 78) (some (tm 79)) none none),none⟩,⟨(some 81),(.mv (tm 2)),none⟩,
 ⟨(some 82),(.copy 1 (tm 80) (tm 81)),none⟩]
def dR:List ad :=
 [⟨(some 83),(.mv (tm 0)),none⟩,⟨(some 6),(.mv (tm 83)),none⟩]
def dQ:List ad :=
 [⟨(some 84),(.mv (tm 0)),none⟩,⟨(some 85),(.mv (tm 8)),none⟩,⟨(some 86),(.slV 1 (tm 84) (some (tm 85)) none none),none⟩,⟨(some 87),(.mv (tm 2)),none⟩,
 ⟨(some 88),(.copy 1 (tm 86) (tm 87)),none⟩]
def dP:List ad :=
 [⟨(some 89),(.mv (tm 0)),none⟩,⟨(some 90),(.mv (tm 1)),none⟩,⟨(some 91),(.slV 1 (tm 89) (some (tm 90)) none none),none⟩,⟨(some 92),(.mv (tm 7)),none⟩,
 ⟨(some 93),(.call 54 [(tm 91),(tm 92)]),none⟩]
def dO:List ad :=
 [⟨(some 94),(.mv (tm 0)),none⟩,⟨(some 6),(.mv (tm 94)),none⟩]
def bG:ba:=⟨95,(.seq (.region eA)
 (.seq (.region ez)
 (.seq (.region eu)
 (.seq (.seq (.region er)
 (.cond (tm 16) (.seq (.region eo)
 .ret)
 .skip))
 (.seq (.region em)
 (.seq (.seq (.region ek)
 (.cond (tm 22) (.seq (.region eh)
 .ret)
 .skip))
 (.seq (.seq (.region eg)
 (.cond (tm 31) (.seq (.region ef)
 (.seq (.region dY)
 (.seq (.dregion dX dL)
 (.seq (.region dW)
 .ret))))
 .skip))
 (.seq (.region dV)
 (.seq (.seq (.region dU)
 (.cond (tm 68) (.seq (.dregion dT dK)
 (.seq (.region dS)
 (.seq (.region dR)
 .ret)))
 .skip))
 (.seq (.region dQ)
 (.seq (.region dP)
 (.seq (.region dO)
 .ret)))))))))))),[(.tmp 6)]⟩
attribute [push_cast] eA ez eu er eo em ek eh eg ef dY dX dL dW dV dU dT dK dS dR dQ dP dO
theorem ed:bb Tryz.prog (fun r i=>if r=7∧i=2 then 2 else 1) 36=some bG.raw:=by kernel_rfl
def dG:List ad :=
 [⟨(some 4),(.mv (iv 0)),none⟩]
def dF:List ad :=
 [⟨(some 6),(.mv (tm 0)),none⟩,⟨(some 7),(.len false (tm 6)),none⟩,⟨(some 8),(.mv (iv 0)),none⟩]
def dE:List ad :=
 [⟨(some 9),(.bin .lss (tm 8) (tm 7)),none⟩]
def dD:List ad :=
 [⟨(some 10),(.mv (tm 8)),none⟩,⟨(some 5),(.mv (tm 10)),none⟩]
def dC:List ad :=
 [⟨(some 11),(.mv (tm 1)),none⟩,⟨(some 12),(.mv (tm 0)),none⟩,⟨(some 13),(.mv (tm 5)),none⟩,⟨(some 14),(.iaddr 1 (tm 12) (tm 13)),none⟩,⟨(some 15),(.load false 1 (tm 14)),none⟩,
 ⟨(some 16),(.callv (tm 11) [(tm 15)]),none⟩]
def dB:List ad :=
 [⟨(some 17),(.mv (tm 5)),none⟩,⟨(some 4),(.mv (tm 17)),none⟩]
def dA:List ad :=
 [⟨(some 18),(.bin .add (tm 8) (iv 1)),none⟩,⟨(some 8),(.mv (tm 18)),none⟩]
def dz:List ad :=
 [⟨(some 4),(.mv (iv (-1))),none⟩]
def bn:ba:=⟨19,(.seq (.region dG)
 (.seq (.seq (.region dF)
 (.block 0 (.loop (.seq (.region dE)
 (.seq (.cond (tm 9) .skip
 (.exit 0))
 (.seq (.block 1 (.seq (.region dD)
 (.seq (.region dC)
 (.cond (tm 16) (.seq (.region dB)
 .ret)
 .skip))))
 (.region dA)))))))
 (.seq (.region dz)
 .ret))),[(.tmp 4)]⟩
attribute [push_cast] dG dF dE dD dC dB dA dz
theorem dt:bb Tryz.prog (fun _ _=>1) 50=some bn.raw:=by kernel_rfl
def jr:List ad :=
 [⟨(some 4),(.mv (.av (.bool false))),none⟩]
def jq:List ad :=
 [⟨(some 5),(.mv (tm 0)),none⟩,⟨(some 6),(.call 71 [(tm 5)]),none⟩,⟨(some 7),(.mv (tm 6)),none⟩,⟨(some 8),(.mv (tm 1)),(some (7,true))⟩,
 ⟨(some 9),(.call 71 [(tm 8)]),(some (7,true))⟩,⟨(some 10),(.un .not (tm 9)),(some (7,true))⟩,⟨(some 11),(.pick (tm 7) (tm 10) (.av (.bool false))),none⟩,
 ⟨(some 12),(.mv (tm 11)),none⟩,⟨(some 13),(.mv (tm 0)),(some (12,false))⟩,⟨(some 14),(.mv (tm 1)),(some (12,false))⟩,⟨(some 15),(.bin .lss (tm 13) (tm 14)),(some (12,false))⟩,
 ⟨(some 16),(.pick (tm 12) (.av (.bool true)) (tm 15)),none⟩,⟨(some 4),(.mv (tm 16)),none⟩]
def hU:ba:=⟨17,(.seq (.region jr)
 (.seq (.region jq)
 .ret)),[(.tmp 4)]⟩
attribute [push_cast] jr jq
theorem Du:bb Tryz.prog (fun _ _=>1) 51=some hU.raw:=by kernel_rfl
def gc:List ad :=
 [⟨(some 2),(.mv (.av (.bool false))),none⟩]
def gb:List ad :=
 [⟨(some 3),(.mv (tm 0)),none⟩,⟨(some 4),(.mv (tm 0)),none⟩,⟨(some 5),(.bin .neq (tm 3) (tm 4)),none⟩,⟨(some 2),(.mv (tm 5)),none⟩]
def ff:ba:=⟨6,(.seq (.region gc)
 (.seq (.region gb)
 .ret)),[(.tmp 2)]⟩
attribute [push_cast] gc gb
theorem pB:bb Tryz.prog (fun _ _=>1) 52=some ff.raw:=by kernel_rfl
def iB:List ad :=
 [⟨(some 2),(.mv (.av (.bool false))),none⟩]
def iA:List ad :=
 [⟨(some 3),(.mv (tm 0)),none⟩,⟨(some 4),(.mv (tm 0)),none⟩,⟨(some 5),(.bin .neq (tm 3) (tm 4)),none⟩,⟨(some 2),(.mv (tm 5)),none⟩]
def fL:ba:=⟨6,(.seq (.region iB)
 (.seq (.region iA)
 .ret)),[(.tmp 2)]⟩
attribute [push_cast] iB iA
theorem vo:bb Tryz.prog (fun _ _=>1) 71=some fL.raw:=by kernel_rfl
def uW:List ad :=
 [⟨(some 0),(.mv (.av (.bool false))),none⟩]
def uV:List ad :=
 [⟨(some 9),(.build [(.int .i64 0),(.int .i64 0),(.int .i64 0),(.int .i64 0)] [(0,(1,(iv 2))),(1,(1,(iv 10))),(2,(1,(iv 5)))]),none⟩,
 ⟨(some 1),(.alloc [(.int .i64 0),(.int .i64 0),(.int .i64 0),(.int .i64 0)]),none⟩,⟨none,(.store 4 (tm 1) (tm 9)),none⟩]
def uU:List (ad×Kd) :=
 [od 11 (.load true 4 (tm 1)) (.read 0 1),od 12 (.call 17 [(iv 0)]) (.read 0 1),od 13 (.call 16 [(tm 11),(tm 12),(iv 1),(.av (.bool false))]) (.read 0 1),A4 10 13,
 od 14 (.extract (tm 10) 0) .pure,od 15 (.extract (tm 10) 1) .pure,od 2 (.alloc [(.sl [] 0 (some 0)),(.int .i64 0),(.int .i64 0)]) .eff,
 (⟨none,(.store 3 (tm 2) (tm 14)),none⟩,.eff)]
def pn:List ad :=
 [⟨(some 3),(.mv (tm 15)),none⟩]
def uT:List ad :=
 [⟨(some 17),(.load true 4 (tm 1)),none⟩,⟨(some 18),(.load true 3 (tm 2)),none⟩,⟨(some 19),(.call 16 [(tm 17),(tm 18),(iv 3),(.av (.bool false))]),none⟩,
 ⟨(some 16),(.mv (tm 19)),none⟩,⟨(some 20),(.extract (tm 16) 0),none⟩,⟨(some 21),(.extract (tm 16) 1),none⟩,⟨none,(.store 3 (tm 2) (tm 20)),none⟩,⟨(some 4),(.mv (tm 21)),none⟩]
def uS:List ad :=
 [⟨(some 23),(.load true 4 (tm 1)),none⟩,⟨(some 24),(.load true 3 (tm 2)),none⟩,⟨(some 25),(.call 16 [(tm 23),(tm 24),(iv 7),(.av (.bool true))]),none⟩,
 ⟨(some 22),(.mv (tm 25)),none⟩,⟨(some 26),(.extract (tm 22) 0),none⟩,⟨(some 27),(.extract (tm 22) 1),none⟩,
 ⟨(some 5),(.alloc [(.sl [] 0 (some 0)),(.int .i64 0),(.int .i64 0)]),none⟩,⟨none,(.store 3 (tm 5) (tm 26)),none⟩,⟨(some 6),(.mv (tm 27)),none⟩]
def uR:List ad :=
 [⟨(some 29),(.load true 4 (tm 1)),none⟩,⟨(some 30),(.load true 3 (tm 2)),none⟩,⟨(some 31),(.call 16 [(tm 29),(tm 30),(iv 8),(.av (.bool true))]),none⟩,
 ⟨(some 28),(.mv (tm 31)),none⟩,⟨(some 32),(.extract (tm 28) 0),none⟩,⟨(some 33),(.extract (tm 28) 1),none⟩,
 ⟨(some 7),(.alloc [(.sl [] 0 (some 0)),(.int .i64 0),(.int .i64 0)]),none⟩,⟨none,(.store 3 (tm 7) (tm 32)),none⟩,⟨(some 8),(.mv (tm 33)),none⟩]
def uQ:List ad :=
 [⟨(some 34),(.mv (tm 3)),none⟩,⟨(some 35),(.bin .eql (tm 34) (iv 1)),none⟩,⟨(some 36),(.mv (tm 35)),none⟩,⟨(some 37),(.mv (tm 4)),(some (36,true))⟩,
 ⟨(some 38),(.bin .eql (tm 37) (iv 1)),(some (36,true))⟩,⟨(some 39),(.pick (tm 36) (tm 38) (.av (.bool false))),none⟩,⟨(some 40),(.mv (tm 39)),none⟩,
 ⟨(some 41),(.faddr 1 (tm 2)),(some (40,true))⟩,⟨(some 42),(.load false 1 (tm 41)),(some (40,true))⟩,⟨(some 43),(.bin .eql (tm 42) (iv 3)),(some (40,true))⟩,
 ⟨(some 44),(.pick (tm 40) (tm 43) (.av (.bool false))),none⟩,⟨(some 45),(.mv (tm 44)),none⟩,⟨(some 46),(.mv (tm 6)),(some (45,true))⟩,
 ⟨(some 47),(.bin .eql (tm 46) (iv 2)),(some (45,true))⟩,⟨(some 48),(.pick (tm 45) (tm 47) (.av (.bool false))),none⟩,⟨(some 49),(.mv (tm 48)),none⟩,
 ⟨(some 50),(.mv (tm 8)),(some (49,true))⟩,⟨(some 51),(.bin .eql (tm 50) (iv 0)),(some (49,true))⟩,⟨(some 52),(.pick (tm 49) (tm 51) (.av (.bool false))),none⟩,
 ⟨(some 53),(.mv (tm 52)),none⟩,⟨(some 54),(.load true 4 (tm 1)),(some (53,true))⟩,⟨(some 55),(.call 18 [(tm 54)]),(some (53,true))⟩,
 ⟨(some 56),(.bin .eql (tm 55) (iv 0)),(some (53,true))⟩,⟨(some 57),(.pick (tm 53) (tm 56) (.av (.bool false))),none⟩,⟨(some 0),(.mv (tm 57)),none⟩]
def lp:ba:=⟨58,(.seq (.region uW)
 (.seq (.region uV)
 (.seq (.dregion uU pn)
 (.seq (.region uT)
 (.seq (.region uS)
 (.seq (.region uR)
 (.seq (.region uQ)
 .ret))))))),[(.tmp 0)]⟩
attribute [push_cast] uW uV uU pn uT uS uR uQ
theorem Je:bb Tryz.prog (fun _ _=>1) 6=some lp.raw:=by kernel_rfl
variable {L:List Blk} {K:AV→List Blk→Prop}
set_option maxHeartbeats 8000000
def cx (n:Int):Bool:=decide (0≤n) && decide (n≤9007199254740991)
theorem bI {n:Int} (h:K (.bool (cx n)) L):ao Tryz.prog 26 [.int .i64 n] L K:=by
 refine ag Ja (by simp [lh]) ?_
 simp only [lh,aN]
 repeat' first
   | refine aT ?_
   | (first|refine aG (by kernel_rfl) ?_|refine ap (by kernel_rfl) ?_|refine aq ?_|refine aZ ?_|refine aO (fun _=>?_)|refine aj ?_|refine aK ?_)
     refine sm ?_
   | (first|refine aC (by kernel_rfl) ?_|refine aH ?_|refine aJ ?_|refine aU (ai ?_))
     refine sl ?_
   | exact aP
   | first|apply aQ|apply aD|apply aR|apply aE|apply aS|apply aF
   | refine aw ?_
   | first|refine ar rfl ?_|refine au rfl ?_|refine af rfl ?_ ?_|refine ay rfl (fun _=>?_) (fun _=>?_)|refine ax rfl (fun _=>?_) (fun _=>?_)
   | ((first|refine ae (fun _=>?_) (fun _=>?_)|refine ah (fun _=>?_) (fun _=>?_))<;>try refine sm ?_)
   | refine And.intro trivial ?_
   | refine And.intro (by omega) ?_
   | refine aA rfl (fun _=>?_) (fun _=>?_)
   | refine And.intro ?_ ?_
 all_goals (first|refine aa rfl (Kto h ?_)|refine ab (Kto h ?_)|refine aa (by simp only [AV.refs,AV.refsL, *];rfl) (Kto h ?_)|refine aX (aa rfl (Kto h ?_))|(trace_state;fail))
 all_goals (first|(simp [cx, *];done)|(simp [cx, *];omega)|(simp [cx, *];intros;omega)|(simp_all [Hid,cx];done)|(simp_all [Hid,cx];omega))
def HV (a b c d:Int):Bool:=decide (0≤a) && decide (a≤100) && cx b && cx c && cx d
theorem eO {a b c d:Int} (h:K (.int .i64 (if HV a b c d=true then 0 else 2)) L):ao Tryz.prog 18 [.agg [.int .i64 a,.int .i64 b,.int .i64 c,.int .i64 d]] L K:=by
 refine ag Iw (by simp [jI]) ?_
 simp only [jI,aN]
 repeat' first
   | refine aT ?_
   | (first|refine aG (by kernel_rfl) ?_|refine ap (by kernel_rfl) ?_|refine aq ?_|refine aZ ?_|refine aO (fun _=>?_)|refine aj ?_|refine aK ?_|refine bI ?_|refine aL (bI ⟨rfl,rfl⟩) (bI ⟨rfl,rfl⟩) ?_|refine aB (bI ⟨rfl,rfl⟩) ?_)
     refine sm ?_
   | (first|refine aC (by kernel_rfl) ?_|refine aH ?_|refine aJ ?_|refine aU (ai ?_))
     refine sl ?_
   | exact aP
   | first|apply aQ|apply aD|apply aR|apply aE|apply aS|apply aF
   | refine aw ?_
   | first|refine ar rfl ?_|refine au rfl ?_|refine af rfl ?_ ?_|refine ay rfl (fun _=>?_) (fun _=>?_)|refine ax rfl (fun _=>?_) (fun _=>?_)
   | ((first|refine ae (fun _=>?_) (fun _=>?_)|refine ah (fun _=>?_) (fun _=>?_))<;>try refine sm ?_)
   | refine And.intro trivial ?_
   | refine And.intro (by omega) ?_
   | refine aA rfl (fun _=>?_) (fun _=>?_)
   | refine And.intro ?_ ?_
 all_goals (first|refine aa rfl (Kto h ?_)|refine ab (Kto h ?_)|refine aa (by simp only [AV.refs,AV.refsL, *];rfl) (Kto h ?_)|refine aX (aa rfl (Kto h ?_))|(trace_state;fail))
 all_goals (first|(simp [HV, *];done)|(simp [HV, *];omega)|(simp [HV, *];intros;omega)|(simp_all [Hid,HV];done)|(simp_all [Hid,HV];omega))
theorem OD {n:Int} (h:K (.agg [.sl [] 0 (some 0),.int .i64 (-1),.int .i64 n]) L):ao Tryz.prog 17 [.int .i64 n] L K:=by
 refine ag Kn (by simp [qj]) ?_
 simp only [qj,aN]
 repeat' first
   | refine aT ?_
   | (first|refine aG (by kernel_rfl) ?_|refine ap (by kernel_rfl) ?_|refine aq ?_|refine aZ ?_|refine aO (fun _=>?_)|refine aj ?_|refine aK ?_)
     refine sm ?_
   | (first|refine aC (by kernel_rfl) ?_|refine aH ?_|refine aJ ?_|refine aU (ai ?_))
     refine sl ?_
   | exact aP
   | first|apply aQ|apply aD|apply aR|apply aE|apply aS|apply aF
   | refine aw ?_
   | first|refine ar rfl ?_|refine au rfl ?_|refine af rfl ?_ ?_|refine ay rfl (fun _=>?_) (fun _=>?_)|refine ax rfl (fun _=>?_) (fun _=>?_)
   | ((first|refine ae (fun _=>?_) (fun _=>?_)|refine ah (fun _=>?_) (fun _=>?_))<;>try refine sm ?_)
   | refine And.intro trivial ?_
   | refine And.intro (by omega) ?_
   | refine aA rfl (fun _=>?_) (fun _=>?_)
   | refine And.intro ?_ ?_
 all_goals (first|refine aa rfl (Kto h ?_)|refine ab (Kto h ?_)|refine aa (by simp only [AV.refs,AV.refsL, *];rfl) (Kto h ?_)|refine aX (aa rfl (Kto h ?_))|(trace_state;fail))
 all_goals (first|(simp [*];done)|(simp [*];omega)|(simp [*];intros;omega)|(simp_all [Hid,Hid];done)|(simp_all [Hid,Hid];omega))
theorem WS {l:List AV} {n:Nat} {cap:Option Nat} {a b:Int} (hr:AV.refsL (fun i=>decide (i<L.length)) l=true) (h:K (.agg [.sl l n cap,.int .i64 a,.int .i64 b]) L):ao Tryz.prog 10 [.agg [.sl l n cap,.int .i64 a,.int .i64 b]] L K:=by
 refine ag Mv (by simp [Gd]) ?_
 simp only [Gd,aN]
 repeat' first
   | refine aT ?_
   | (first|refine aG (by kernel_rfl) ?_|refine ap (by kernel_rfl) ?_|refine aq ?_|refine aZ ?_|refine aO (fun _=>?_)|refine aj ?_|refine aK ?_)
     refine sm ?_
   | (first|refine aC (by kernel_rfl) ?_|refine aH ?_|refine aJ ?_|refine aU (ai ?_))
     refine sl ?_
   | exact aP
   | first|apply aQ|apply aD|apply aR|apply aE|apply aS|apply aF
   | refine aw ?_
   | first|refine ar rfl ?_|refine au rfl ?_|refine af rfl ?_ ?_|refine ay rfl (fun _=>?_) (fun _=>?_)|refine ax rfl (fun _=>?_) (fun _=>?_)
   | ((first|refine ae (fun _=>?_) (fun _=>?_)|refine ah (fun _=>?_) (fun _=>?_))<;>try refine sm ?_)
   | refine And.intro trivial ?_
   | refine And.intro (by omega) ?_
   | refine aA rfl (fun _=>?_) (fun _=>?_)
   | refine And.intro ?_ ?_
 all_goals (first|refine aa rfl (Kto h ?_)|refine ab (Kto h ?_)|refine aa (by simp only [AV.refs,AV.refsL, *];rfl) (Kto h ?_)|refine aX (aa rfl (Kto h ?_))|(trace_state;fail))
 all_goals (first|(simp [*];done)|(simp [*];omega)|(simp [*];intros;omega)|(simp_all [Hid,Hid];done)|(simp_all [Hid,Hid];omega))
def eZ:Int→List Int→Bool
 | _,[]=>true
 | p,x::l=>cx x && decide (p≤x) && eZ x l
def fJ (fs:List Int) (lk ch:Int):Bool:=eZ 0 fs && decide ((fs.length:Int)≤100) && (decide (lk=-1) || cx lk) && cx ch
def Dm (fs:List Int) (k:Nat):Int:=if k=0 then 0 else fs.getD (k - 1) 0
theorem KV {fs:List Int} {k:Nat} (h:k<fs.length):eZ (Dm fs k) (fs.drop k)=(cx (fs.getD k 0) && decide (Dm fs k≤fs.getD k 0) && eZ (Dm fs (k+1)) (fs.drop (k+1))):=by
 rw [List.drop_eq_getElem_cons h]
 simp [eZ,Dm,h]
theorem MW {n:Int} (h:cx n=true):0≤n:=by simp [cx] at h;exact h.1
theorem Qx {fs:List Int} {lk ch:Int} {cap:Option Nat} (hn:(fs.length:Int)≤9223372036854775807) (h:K (.bool (fJ fs lk ch)) L) :
   ao Tryz.prog 13 [.agg [.sl (bc fs) fs.length cap,.int .i64 lk,.int .i64 ch]] L K:=by
 refine ag kP (by simp [fg]) ?_
 simp only [fg,aN]
 repeat' first
   | refine aT ?_
   | (first|refine aG (by kernel_rfl) ?_|refine ap (by kernel_rfl) ?_|refine aq ?_|refine aZ ?_|refine aO (fun _=>?_)|refine aj ?_|refine aK ?_|refine bI ?_|refine aL (bI ⟨rfl,rfl⟩) (bI ⟨rfl,rfl⟩) ?_|refine aB (bI ⟨rfl,rfl⟩) ?_)
     refine sm ?_
   | (first|refine aC (by kernel_rfl) ?_|refine aH ?_|refine aJ ?_|refine aU (ai ?_))
     refine sl ?_
   | exact aP
   | first|apply aQ|apply aD|apply aR|apply aE|apply aS|apply aF
   | refine aw ?_
   | first|refine ar rfl ?_|refine au rfl ?_|refine af rfl ?_ ?_|refine ay rfl (fun _=>?_) (fun _=>?_)|refine ax rfl (fun _=>?_) (fun _=>?_)
   | ((first|refine ae (fun _=>?_) (fun _=>?_)|refine ah (fun _=>?_) (fun _=>?_))<;>try refine sm ?_)
   | refine And.intro trivial ?_
   | refine And.intro (by omega) ?_
   | refine aA rfl (fun _=>?_) (fun _=>?_)
   | refine And.intro ?_ ?_
 refine aI (fun n T' L'=>∃ k,n=fs.length - k∧k≤fs.length∧T'=[(8,.int .i64 (k:Int)),(7,.int .i64 fs.length),(6,.sl (bc fs) fs.length cap),(1,.ptr L.length 0)]∧L'=L++[.cells [.sl (bc fs) fs.length cap,.int .i64 lk,.int .i64 ch]] ∧
   eZ 0 fs=eZ (Dm fs k) (fs.drop k)) (CutS (b:=Nat.le_refl _)) ⟨0,rfl,Nat.zero_le _,rfl,rfl,by simp [Dm]⟩ ?_
 rintro _ _ _ ⟨k,rfl,hk,rfl,rfl,hr⟩
 by_cases hlt:k<fs.length
 · have h1:(k:Int)<(fs.length:Int):=by omega
   have h2:IntKind.i64.wrap ((k:Int)+1)=(k:Int)+1:=ac (by omega) (by omega)
   have h3:IntKind.i64.wrap ((k:Int) - 1)=(k:Int) - 1:=ac (by omega) (by omega)
   have h4:(fs.map (AV.int .i64)).getD k .undef=.int .i64 (fs.getD k 0):=by simp [hlt]
   have h5:((k:Int) - 1).toNat=k - 1:=by omega
   have h6:(fs.map (AV.int .i64)).getD (k - 1) .undef=.int .i64 (fs.getD (k - 1) 0):=by simp [show k - 1<fs.length by omega]
   have h7:=KV hlt
   have h8:(0<(k:Int))→Dm fs k=fs.getD (k - 1) 0:=fun h=>by simp [Dm,show k≠0 by omega]
   have h9:¬ (0<(k:Int))→Dm fs k=0:=fun h=>by simp [Dm,show k=0 by omega]
   have h10:=@MW (fs.getD k 0)
   repeat' first
     | refine aT ?_
     | (first|refine aG (by kernel_rfl) ?_|refine ap (by kernel_rfl) ?_|refine aq ?_|refine aZ ?_|refine aO (fun _=>?_)|refine aj ?_|refine aK ?_|refine bI ?_|refine aL (bI ⟨rfl,rfl⟩) (bI ⟨rfl,rfl⟩) ?_|refine aB (bI ⟨rfl,rfl⟩) ?_)
       refine sm ?_
     | (first|refine aC (by kernel_rfl) ?_|refine aH ?_|refine aJ ?_|refine aU (ai ?_))
       refine sl ?_
     | exact aP
     | first|apply aQ|apply aD|apply aR|apply aE|apply aS|apply aF
     | refine aw ?_
     | first|refine ar rfl ?_|refine au rfl ?_|refine af rfl ?_ ?_|refine ay rfl (fun _=>?_) (fun _=>?_)|refine ax rfl (fun _=>?_) (fun _=>?_)
     | ((first|refine ae (fun _=>?_) (fun _=>?_)|refine ah (fun _=>?_) (fun _=>?_))<;>try refine sm ?_)
     | refine And.intro trivial ?_
     | refine And.intro (by omega) ?_
     | refine aA rfl (fun _=>?_) (fun _=>?_)
     | refine And.intro ?_ ?_
   all_goals first
     | refine az _ _ _ ?_ (CutS (b:=by simp)) ⟨k+1,rfl,hlt,rfl,rfl,?_⟩<;>first|omega|simp_all
     | skip
   all_goals (first|refine aa rfl (Kto h ?_)|refine ab (Kto h ?_)|refine aa (by simp only [AV.refs,AV.refsL, *];rfl) (Kto h ?_)|refine aX (aa rfl (Kto h ?_))|(trace_state;fail))
   all_goals (first|(simp [fJ, *];done)|(simp [fJ, *];omega)|(simp [fJ, *];intros;omega)|(simp_all [Hid,fJ];done)|(simp_all [Hid,fJ];omega))
 · have h1:¬ (k:Int)<(fs.length:Int):=by omega
   have h3:List.drop k fs=[]:=List.drop_eq_nil_of_le (by omega)
   repeat' first
     | refine aT ?_
     | (first|refine aG (by kernel_rfl) ?_|refine ap (by kernel_rfl) ?_|refine aq ?_|refine aZ ?_|refine aO (fun _=>?_)|refine aj ?_|refine aK ?_|refine bI ?_|refine aL (bI ⟨rfl,rfl⟩) (bI ⟨rfl,rfl⟩) ?_|refine aB (bI ⟨rfl,rfl⟩) ?_)
       refine sm ?_
     | (first|refine aC (by kernel_rfl) ?_|refine aH ?_|refine aJ ?_|refine aU (ai ?_))
       refine sl ?_
     | exact aP
     | first|apply aQ|apply aD|apply aR|apply aE|apply aS|apply aF
     | refine aw ?_
     | first|refine ar rfl ?_|refine au rfl ?_|refine af rfl ?_ ?_|refine ay rfl (fun _=>?_) (fun _=>?_)|refine ax rfl (fun _=>?_) (fun _=>?_)
     | ((first|refine ae (fun _=>?_) (fun _=>?_)|refine ah (fun _=>?_) (fun _=>?_))<;>try refine sm ?_)
     | refine And.intro trivial ?_
     | refine And.intro (by omega) ?_
     | refine aA rfl (fun _=>?_) (fun _=>?_)
     | refine And.intro ?_ ?_
   all_goals (first|refine aa rfl (Kto h ?_)|refine ab (Kto h ?_)|refine aa (by simp only [AV.refs,AV.refsL, *];rfl) (Kto h ?_)|refine aX (aa rfl (Kto h ?_))|(trace_state;fail))
   all_goals (first|(simp [fJ,eZ, *];done)|(simp [fJ,eZ, *];omega)|(simp [fJ,eZ, *];intros;omega)|(simp_all [Hid,fJ,eZ];done)|(simp_all [Hid,fJ,eZ];omega))
theorem NU {n:Int} (h:K (.bool false) L):ao Tryz.prog 71 [.int .i64 n] L K:=by
 refine ag vo (by simp [fL]) ?_
 simp only [fL,aN]
 repeat' first
   | refine aT ?_
   | (first|refine aG (by kernel_rfl) ?_|refine ap (by kernel_rfl) ?_|refine aq ?_|refine aZ ?_|refine aO (fun _=>?_)|refine aj ?_|refine aK ?_)
     refine sm ?_
   | (first|refine aC (by kernel_rfl) ?_|refine aH ?_|refine aJ ?_|refine aU (ai ?_))
     refine sl ?_
   | exact aP
   | first|apply aQ|apply aD|apply aR|apply aE|apply aS|apply aF
   | refine aw ?_
   | first|refine ar rfl ?_|refine au rfl ?_|refine af rfl ?_ ?_|refine ay rfl (fun _=>?_) (fun _=>?_)|refine ax rfl (fun _=>?_) (fun _=>?_)
   | ((first|refine ae (fun _=>?_) (fun _=>?_)|refine ah (fun _=>?_) (fun _=>?_))<;>try refine sm ?_)
   | refine And.intro trivial ?_
   | refine And.intro (by omega) ?_
   | refine aA rfl (fun _=>?_) (fun _=>?_)
   | refine And.intro ?_ ?_
 all_goals (first|refine aa rfl (Kto h ?_)|refine ab (Kto h ?_)|refine aa (by simp only [AV.refs,AV.refsL, *];rfl) (Kto h ?_)|refine aX (aa rfl (Kto h ?_))|(trace_state;fail))
 all_goals (first|(simp [*];done)|(simp [*];omega)|(simp [*];intros;omega)|(simp_all [Hid,Hid];done)|(simp_all [Hid,Hid];omega))
theorem vz {n:Int} (h:K (.bool false) L):ao Tryz.prog 52 [.int .i64 n] L K:=by
 refine ag pB (by simp [ff]) ?_
 simp only [ff,aN]
 repeat' first
   | refine aT ?_
   | (first|refine aG (by kernel_rfl) ?_|refine ap (by kernel_rfl) ?_|refine aq ?_|refine aZ ?_|refine aO (fun _=>?_)|refine aj ?_|refine aK ?_)
     refine sm ?_
   | (first|refine aC (by kernel_rfl) ?_|refine aH ?_|refine aJ ?_|refine aU (ai ?_))
     refine sl ?_
   | exact aP
   | first|apply aQ|apply aD|apply aR|apply aE|apply aS|apply aF
   | refine aw ?_
   | first|refine ar rfl ?_|refine au rfl ?_|refine af rfl ?_ ?_|refine ay rfl (fun _=>?_) (fun _=>?_)|refine ax rfl (fun _=>?_) (fun _=>?_)
   | ((first|refine ae (fun _=>?_) (fun _=>?_)|refine ah (fun _=>?_) (fun _=>?_))<;>try refine sm ?_)
   | refine And.intro trivial ?_
   | refine And.intro (by omega) ?_
   | refine aA rfl (fun _=>?_) (fun _=>?_)
   | refine And.intro ?_ ?_
 all_goals (first|refine aa rfl (Kto h ?_)|refine ab (Kto h ?_)|refine aa (by simp only [AV.refs,AV.refsL, *];rfl) (Kto h ?_)|refine aX (aa rfl (Kto h ?_))|(trace_state;fail))
 all_goals (first|(simp [*];done)|(simp [*];omega)|(simp [*];intros;omega)|(simp_all [Hid,Hid];done)|(simp_all [Hid,Hid];omega))
theorem NC {a b:Int} (h:K (.bool (decide (a<b))) L):ao Tryz.prog 51 [.int .i64 a,.int .i64 b] L K:=by
 refine ag Du (by simp [hU]) ?_
 simp only [hU,aN]
 repeat' first
   | refine aT ?_
   | (first|refine aG (by kernel_rfl) ?_|refine ap (by kernel_rfl) ?_|refine aq ?_|refine aZ ?_|refine aO (fun _=>?_)|refine aj ?_|refine aK ?_|refine NU ?_|refine aL (NU ⟨rfl,rfl⟩) (NU ⟨rfl,rfl⟩) ?_|refine aB (NU ⟨rfl,rfl⟩) ?_)
     refine sm ?_
   | (first|refine aC (by kernel_rfl) ?_|refine aH ?_|refine aJ ?_|refine aU (ai ?_))
     refine sl ?_
   | exact aP
   | first|apply aQ|apply aD|apply aR|apply aE|apply aS|apply aF
   | refine aw ?_
   | first|refine ar rfl ?_|refine au rfl ?_|refine af rfl ?_ ?_|refine ay rfl (fun _=>?_) (fun _=>?_)|refine ax rfl (fun _=>?_) (fun _=>?_)
   | ((first|refine ae (fun _=>?_) (fun _=>?_)|refine ah (fun _=>?_) (fun _=>?_))<;>try refine sm ?_)
   | refine And.intro trivial ?_
   | refine And.intro (by omega) ?_
   | refine aA rfl (fun _=>?_) (fun _=>?_)
   | refine And.intro ?_ ?_
 all_goals (first|refine aa rfl (Kto h ?_)|refine ab (Kto h ?_)|refine aa (by simp only [AV.refs,AV.refsL, *];rfl) (Kto h ?_)|refine aX (aa rfl (Kto h ?_))|(trace_state;fail))
 all_goals (first|(simp [*];done)|(simp [*];omega)|(simp [*];intros;omega)|(simp_all [Hid,Hid];done)|(simp_all [Hid,Hid];omega))
theorem Ip {cap:Option Nat} (h:K (.sl [] 0 (some 0)) L):ao Tryz.prog 32 [.sl [] 0 cap] L K:=by
 refine ag eC (by simp [bJ]) ?_
 simp only [bJ,aN]
 repeat' first
   | refine aT ?_
   | (first|refine aG (by kernel_rfl) ?_|refine ap (by kernel_rfl) ?_|refine aq ?_|refine aZ ?_|refine aO (fun _=>?_)|refine aj ?_|refine aK ?_)
     refine sm ?_
   | (first|refine aC (by kernel_rfl) ?_|refine aH ?_|refine aJ ?_|refine aU (ai ?_))
     refine sl ?_
   | exact aP
   | first|apply aQ|apply aD|apply aR|apply aE|apply aS|apply aF
   | refine aw ?_
   | first|refine ar rfl ?_|refine au rfl ?_|refine af rfl ?_ ?_|refine ay rfl (fun _=>?_) (fun _=>?_)|refine ax rfl (fun _=>?_) (fun _=>?_)
   | ((first|refine ae (fun _=>?_) (fun _=>?_)|refine ah (fun _=>?_) (fun _=>?_))<;>try refine sm ?_)
   | refine And.intro trivial ?_
   | refine And.intro (by omega) ?_
   | refine aA rfl (fun _=>?_) (fun _=>?_)
   | refine And.intro ?_ ?_
 all_goals (first|refine aa rfl (Kto h ?_)|refine ab (Kto h ?_)|refine aa (by simp only [AV.refs,AV.refsL, *];rfl) (Kto h ?_)|refine aX (aa rfl (Kto h ?_))|(trace_state;fail))
 all_goals (first|(simp [*];done)|(simp [*];omega)|(simp [*];intros;omega)|(simp_all [Hid,Hid];done)|(simp_all [Hid,Hid];omega))
theorem Vr {xs:List Int} {cap:Option Nat} (h0:xs.length≠0) (hn:xs.length≤1000000) (h:K (.lsl L.length 0 xs.length none 1) (L++[.cells (bc xs)])) :
   ao Tryz.prog 32 [.sl (bc xs) xs.length cap] L K:=by
 refine ag eC (by simp [bJ]) ?_
 simp only [bJ,aN]
 repeat' first
   | refine aT ?_
   | (first|refine aG (by kernel_rfl) ?_|refine ap (by kernel_rfl) ?_|refine aq ?_|refine aZ ?_|refine aO (fun _=>?_)|refine aj ?_|refine aK ?_)
     refine sm ?_
   | (first|refine aC (by kernel_rfl) ?_|refine aH ?_|refine aJ ?_|refine aU (ai ?_))
     refine sl ?_
   | exact aP
   | first|apply aQ|apply aD|apply aR|apply aE|apply aS|apply aF
   | refine aw ?_
   | first|refine ar rfl ?_|refine au rfl ?_|refine af rfl ?_ ?_|refine ay rfl (fun _=>?_) (fun _=>?_)|refine ax rfl (fun _=>?_) (fun _=>?_)
   | ((first|refine ae (fun _=>?_) (fun _=>?_)|refine ah (fun _=>?_) (fun _=>?_))<;>try refine sm ?_)
   | refine And.intro trivial ?_
   | refine And.intro (by omega) ?_
   | refine aA rfl (fun _=>?_) (fun _=>?_)
   | refine And.intro ?_ ?_
 refine N3 L.length (.cells (bc xs)) rfl (Nat.le_refl _) (by simp) (by simp [AV.refs]) (dx xs) ?_
 simpa [AV.ren] using h
def Up (xs:List Int):Prop:=∀ i j,i<j→j<xs.length→xs.getD i 0≤xs.getD j 0
def Un (xs:List Int) (t:Int) (k:Nat):Prop:=k≤xs.length∧(∀ j,j<k→xs.getD j 0<t)∧∀ j,k≤j→j<xs.length→t≤xs.getD j 0
theorem W5 {xs:List Int} {t:Int} {i:Nat} {cp:Option Nat} {rest:List AV} (hn:xs.length≤1000000) (hup:Up xs) (hL:L[i]?=some (.cells (bc xs++rest)))
   (h:∀ k b,Un xs t k→K (.tup [.int .i64 (k:Nat),.bool b]) L):ao Tryz.prog 35 [.lsl i 0 xs.length cp 1,.int .i64 t] L K:=by
 replace hup:=hid hup
 refine ag cG (by simp [bd]) ?_
 simp only [bd,aN]
 repeat' first
   | refine aT ?_
   | (first|refine aG (by kernel_rfl) ?_|refine ap (by kernel_rfl) ?_|refine aq ?_|refine aZ ?_|refine aO (fun _=>?_)|refine aj ?_|refine aK ?_)
     refine sm ?_
   | (first|refine aC (by kernel_rfl) ?_|refine aH ?_|refine aJ ?_|refine aU (ai ?_))
     refine sl ?_
   | exact aP
   | first|apply aQ|apply aD|apply aR|apply aE|apply aS|apply aF
   | refine aw ?_
   | first|refine ar rfl ?_|refine au rfl ?_|refine af rfl ?_ ?_|refine ay rfl (fun _=>?_) (fun _=>?_)|refine ax rfl (fun _=>?_) (fun _=>?_)
   | ((first|refine ae (fun _=>?_) (fun _=>?_)|refine ah (fun _=>?_) (fun _=>?_))<;>try refine sm ?_)
   | refine And.intro trivial ?_
   | refine And.intro (by omega) ?_
   | refine aA rfl (fun _=>?_) (fun _=>?_)
   | refine And.intro ?_ ?_
 refine aI (fun n T' L'=>∃ a b:Nat,n=b - a∧a≤b∧b≤xs.length∧T'=[(6,.int .i64 xs.length),(7,.int .i64 (a:Int)),(8,.int .i64 (b:Int)),(0,.lsl i 0 xs.length cp 1),(1,.int .i64 t)]∧L'=L ∧
   (∀ j,j<a→xs.getD j 0<t)∧∀ j,b≤j→j<xs.length→t≤xs.getD j 0) (CutS (b:=Nat.le_refl _)) ⟨0,xs.length,rfl,Nat.zero_le _,Nat.le_refl _,rfl,rfl,by simp,fun j h1 h2=>by omega⟩ ?_
 rintro _ _ _ ⟨a,b,rfl,hab,hb,rfl,rfl,h1,h2⟩
 replace h1:=hid h1
 replace h2:=hid h2
 replace h:=hid h
 by_cases hlt:a<b
 · have g1:(a:Int)<(b:Int):=by omega
   obtain ⟨m,hm⟩:∃ m,m=(a+b) / 2:=⟨_,rfl⟩
   have g2:IntKind.i64.wrap ((a:Int)+b)=(a:Int)+b:=ac (by omega) (by omega)
   have g3:IntKind.u64.wrap ((a:Int)+b)=(a:Int)+b:=FJ (by omega) (by omega)
   have g4:Int.fdiv ((a:Int)+b) (2 ^ (min 1 IntKind.u64.bits))=(m:Int):=by
     have:(2:Int) ^ (min 1 IntKind.u64.bits)=2:=by decide
     rw [this,Int.fdiv_eq_ediv_of_nonneg _ (by omega)];omega
   have g5:IntKind.i64.wrap (m:Int)=m:=ac (by omega) (by omega)
   have g6:IntKind.i64.wrap ((m:Int)+1)=(m:Int)+1:=ac (by omega) (by omega)
   have g7:(xs.map (AV.int .i64)++rest).getD m .undef=.int .i64 (xs.getD m 0):=by
     rw [List.getD_eq_getElem?_getD,List.getElem?_append_left (by simp;omega)];simp [show m<xs.length by omega]
   have g8:=hid (show a≤m∧m<b by omega)
   have g9:(m:Int)<(xs.length:Int):=by have:=g8.out;omega
   have g10:0≤(m:Int):=by omega
   clear hm
   repeat' first
     | refine aT ?_
     | (first|refine aG (by kernel_rfl) ?_|refine ap (by kernel_rfl) ?_|refine aq ?_|refine aZ ?_|refine aO (fun _=>?_)|refine aj ?_|refine aK ?_|refine NC ?_|refine aL (NC ⟨rfl,rfl⟩) (NC ⟨rfl,rfl⟩) ?_|refine aB (NC ⟨rfl,rfl⟩) ?_)
       refine sm ?_
     | (first|refine aC (by kernel_rfl) ?_|refine aH ?_|refine aJ ?_|refine aU (ai ?_))
       refine sl ?_
     | exact aP
     | first|apply aQ|apply aD|apply aR|apply aE|apply aS|apply aF
     | refine aw ?_
     | first|refine ar rfl ?_|refine au rfl ?_|refine af rfl ?_ ?_|refine ay rfl (fun _=>?_) (fun _=>?_)|refine ax rfl (fun _=>?_) (fun _=>?_)
     | ((first|refine ae (fun _=>?_) (fun _=>?_)|refine ah (fun _=>?_) (fun _=>?_))<;>try refine sm ?_)
     | refine And.intro trivial ?_
     | refine And.intro (by omega) ?_
     | refine aA rfl (fun _=>?_) (fun _=>?_)
     | refine And.intro ?_ ?_
   · refine az _ _ _ ?_ (CutL (b:=Nat.le_refl _)) ⟨m+1,b,rfl,by have:=g8.out;omega,hb,rfl,rfl,fun j hj=>?_,h2.out⟩
     · have:=g8.out;omega
     · have hm:xs.getD m 0<t:=by assumption
       rcases Nat.lt_or_ge j m with h|h
       · have:=hup.out j m h (by omega);omega
       · have:j=m:=by omega
         subst this;exact hm
   · refine az _ _ _ ?_ (CutL (b:=Nat.le_refl _)) ⟨a,m,rfl,by have:=g8.out;omega,by omega,rfl,rfl,h1.out,fun j hj hj2=>?_⟩
     · have:=g8.out;omega
     · have hm:¬ xs.getD m 0<t:=by assumption
       rcases Nat.lt_or_ge m j with h|h
       · have:=hup.out m j h hj2;omega
       · have:j=m:=by omega
         subst this;omega
 · have g1:¬ (a:Int)<(b:Int):=by omega
   have hp:Un xs t a:=⟨by omega,h1.out,fun j hj hj2=>h2.out j (by omega) hj2⟩
   replace hp:=hid hp
   by_cases ha:a<xs.length
   · have g2:(a:Int)<(xs.length:Int):=by omega
     have g7:(xs.map (AV.int .i64)++rest).getD a .undef=.int .i64 (xs.getD a 0):=by
       rw [List.getD_eq_getElem?_getD,List.getElem?_append_left (by simp;omega)];simp [ha]
     repeat' first
       | refine aT ?_
       | (first|refine aG (by kernel_rfl) ?_|refine ap (by kernel_rfl) ?_|refine aq ?_|refine aZ ?_|refine aO (fun _=>?_)|refine aj ?_|refine aK ?_|refine vz ?_|refine aL (vz ⟨rfl,rfl⟩) (vz ⟨rfl,rfl⟩) ?_|refine aB (vz ⟨rfl,rfl⟩) ?_)
         refine sm ?_
       | (first|refine aC (by kernel_rfl) ?_|refine aH ?_|refine aJ ?_|refine aU (ai ?_))
         refine sl ?_
       | exact aP
       | first|apply aQ|apply aD|apply aR|apply aE|apply aS|apply aF
       | refine aw ?_
       | first|refine ar rfl ?_|refine au rfl ?_|refine af rfl ?_ ?_|refine ay rfl (fun _=>?_) (fun _=>?_)|refine ax rfl (fun _=>?_) (fun _=>?_)
       | ((first|refine ae (fun _=>?_) (fun _=>?_)|refine ah (fun _=>?_) (fun _=>?_))<;>try refine sm ?_)
       | refine And.intro trivial ?_
       | refine And.intro (by omega) ?_
       | refine aA rfl (fun _=>?_) (fun _=>?_)
       | refine And.intro ?_ ?_
     all_goals exact ab (h.out _ _ hp.out)
   · have g2:¬ (a:Int)<(xs.length:Int):=by omega
     repeat' first
       | refine aT ?_
       | (first|refine aG (by kernel_rfl) ?_|refine ap (by kernel_rfl) ?_|refine aq ?_|refine aZ ?_|refine aO (fun _=>?_)|refine aj ?_|refine aK ?_|refine vz ?_|refine aL (vz ⟨rfl,rfl⟩) (vz ⟨rfl,rfl⟩) ?_|refine aB (vz ⟨rfl,rfl⟩) ?_)
         refine sm ?_
       | (first|refine aC (by kernel_rfl) ?_|refine aH ?_|refine aJ ?_|refine aU (ai ?_))
         refine sl ?_
       | exact aP
       | first|apply aQ|apply aD|apply aR|apply aE|apply aS|apply aF
       | refine aw ?_
       | first|refine ar rfl ?_|refine au rfl ?_|refine af rfl ?_ ?_|refine ay rfl (fun _=>?_) (fun _=>?_)|refine ax rfl (fun _=>?_) (fun _=>?_)
       | ((first|refine ae (fun _=>?_) (fun _=>?_)|refine ah (fun _=>?_) (fun _=>?_))<;>try refine sm ?_)
       | refine And.intro trivial ?_
       | refine And.intro (by omega) ?_
       | refine aA rfl (fun _=>?_) (fun _=>?_)
       | refine And.intro ?_ ?_
     all_goals exact ab (h.out _ _ hp.out)
def Test (f:FuncId) (caps:List AV) (ok:List Blk→Prop) (q:Int→Bool):Prop:=∀ (L:List Blk) (x:Int) (K:AV→List Blk→Prop),ok L→K (.bool (q x)) L→ao Tryz.prog f ([.int .i64 x]++caps) L K
theorem WZ {f:FuncId} {caps:List AV} {ok:List Blk→Prop} {q:Int→Bool} {xs:List Int} {i:Nat} {cp:Option Nat} {rest:List AV} (hq:Test f caps ok q) (hok:ok L) (hn:xs.length≤1000000) (hL:L[i]?=some (.cells (bc xs++rest)))
   (h1:(∀ j,j<xs.length→q (xs.getD j 0)=false)→K (.int .i64 (-1)) L) (h2:∀ k:Nat,k<xs.length→(∀ j,j<k→q (xs.getD j 0)=false)→q (xs.getD k 0)=true→K (.int .i64 k) L):ao Tryz.prog 50 [.lsl i 0 xs.length cp 1,.func f caps] L K:=by
 refine ag dt (by simp [bn]) ?_
 simp only [bn,aN]
 replace hq:=hid hq
 replace h1:=hid h1
 replace h2:=hid h2
 repeat' first
   | refine aT ?_
   | (first|refine aG (by kernel_rfl) ?_|refine ap (by kernel_rfl) ?_|refine aq ?_|refine aZ ?_|refine aO (fun _=>?_)|refine aj ?_|refine aK ?_)
     refine sm ?_
   | (first|refine aC (by kernel_rfl) ?_|refine aH ?_|refine aJ ?_|refine aU (ai ?_))
     refine sl ?_
   | exact aP
   | first|apply aQ|apply aD|apply aR|apply aE|apply aS|apply aF
   | refine aw ?_
   | first|refine ar rfl ?_|refine au rfl ?_|refine af rfl ?_ ?_|refine ay rfl (fun _=>?_) (fun _=>?_)|refine ax rfl (fun _=>?_) (fun _=>?_)
   | ((first|refine ae (fun _=>?_) (fun _=>?_)|refine ah (fun _=>?_) (fun _=>?_))<;>try refine sm ?_)
   | refine And.intro trivial ?_
   | refine And.intro (by omega) ?_
   | refine aA rfl (fun _=>?_) (fun _=>?_)
   | refine And.intro ?_ ?_
 refine aI (fun n T' L'=>∃ k:Nat,n=xs.length - k∧k≤xs.length∧T'=[(8,.int .i64 (k:Int)),(7,.int .i64 xs.length),(0,.lsl i 0 xs.length cp 1),(1,.func f caps)]∧L'=L ∧
   ∀ j,j<k→q (xs.getD j 0)=false) (CutS (b:=Nat.le_refl _)) ⟨0,rfl,Nat.zero_le _,rfl,rfl,by simp⟩ ?_
 rintro _ _ _ ⟨k,rfl,hk,rfl,rfl,hr⟩
 replace hr:=hid hr
 by_cases hlt:k<xs.length
 · have g1:(k:Int)<(xs.length:Int):=by omega
   have g2:IntKind.i64.wrap ((k:Int)+1)=(k:Int)+1:=ac (by omega) (by omega)
   have g7:(xs.map (AV.int .i64)++rest).getD k .undef=.int .i64 (xs.getD k 0):=by
     rw [List.getD_eq_getElem?_getD,List.getElem?_append_left (by simp;omega)];simp [hlt]
   repeat' first
     | refine aT ?_
     | (first|refine aG (by kernel_rfl) ?_|refine ap (by kernel_rfl) ?_|refine aq ?_|refine aZ ?_|refine aO (fun _=>?_)|refine aj ?_|refine aK ?_)
       refine sm ?_
     | (first|refine aC (by kernel_rfl) ?_|refine aH ?_|refine aJ ?_|refine aU (ai ?_))
       refine sl ?_
     | exact aP
     | first|apply aQ|apply aD|apply aR|apply aE|apply aS|apply aF
     | refine aw ?_
     | first|refine ar rfl ?_|refine au rfl ?_|refine af rfl ?_ ?_|refine ay rfl (fun _=>?_) (fun _=>?_)|refine ax rfl (fun _=>?_) (fun _=>?_)
     | ((first|refine ae (fun _=>?_) (fun _=>?_)|refine ah (fun _=>?_) (fun _=>?_))<;>try refine sm ?_)
     | refine And.intro trivial ?_
     | refine And.intro (by omega) ?_
     | refine aA rfl (fun _=>?_) (fun _=>?_)
     | refine And.intro ?_ ?_
   refine hq.out _ _ _ hok ?_
   simp only [Kon,push_cast,reduceIte,Nat.reduceEqDiff,Nat.reduceAdd,Nat.reduceMul,Nat.reduceSub,Nat.reduceLT,Nat.reduceLeDiff,Int.reduceLT,Int.reduceLE,Int.reduceAdd,Int.reduceSub,Int.reduceNeg,Int.reduceToNat,Int.reduceEq,reduceCtorEq, *]
   rcases hqk:q (xs.getD k 0) with _|_
   · repeat' first
       | refine aT ?_
       | (first|refine aG (by kernel_rfl) ?_|refine ap (by kernel_rfl) ?_|refine aq ?_|refine aZ ?_|refine aO (fun _=>?_)|refine aj ?_|refine aK ?_)
         refine sm ?_
       | (first|refine aC (by kernel_rfl) ?_|refine aH ?_|refine aJ ?_|refine aU (ai ?_))
         refine sl ?_
       | exact aP
       | first|apply aQ|apply aD|apply aR|apply aE|apply aS|apply aF
       | refine aw ?_
       | first|refine ar rfl ?_|refine au rfl ?_|refine af rfl ?_ ?_|refine ay rfl (fun _=>?_) (fun _=>?_)|refine ax rfl (fun _=>?_) (fun _=>?_)
       | ((first|refine ae (fun _=>?_) (fun _=>?_)|refine ah (fun _=>?_) (fun _=>?_))<;>try refine sm ?_)
       | refine And.intro trivial ?_
       | refine And.intro (by omega) ?_
       | refine aA rfl (fun _=>?_) (fun _=>?_)
       | refine And.intro ?_ ?_
     refine az _ _ _ ?_ (CutL (b:=Nat.le_refl _)) ⟨k+1,rfl,hlt,rfl,rfl,fun j hj=>?_⟩
     · omega
     · rcases Nat.lt_or_ge j k with h|h
       · exact hr.out j h
       · have:j=k:=by omega
         subst this;exact hqk
   · repeat' first
       | refine aT ?_
       | (first|refine aG (by kernel_rfl) ?_|refine ap (by kernel_rfl) ?_|refine aq ?_|refine aZ ?_|refine aO (fun _=>?_)|refine aj ?_|refine aK ?_)
         refine sm ?_
       | (first|refine aC (by kernel_rfl) ?_|refine aH ?_|refine aJ ?_|refine aU (ai ?_))
         refine sl ?_
       | exact aP
       | first|apply aQ|apply aD|apply aR|apply aE|apply aS|apply aF
       | refine aw ?_
       | first|refine ar rfl ?_|refine au rfl ?_|refine af rfl ?_ ?_|refine ay rfl (fun _=>?_) (fun _=>?_)|refine ax rfl (fun _=>?_) (fun _=>?_)
       | ((first|refine ae (fun _=>?_) (fun _=>?_)|refine ah (fun _=>?_) (fun _=>?_))<;>try refine sm ?_)
       | refine And.intro trivial ?_
       | refine And.intro (by omega) ?_
       | refine aA rfl (fun _=>?_) (fun _=>?_)
       | refine And.intro ?_ ?_
     exact ab (h2.out k hlt hr.out hqk)
 · have g1:¬ (k:Int)<(xs.length:Int):=by omega
   repeat' first
     | refine aT ?_
     | (first|refine aG (by kernel_rfl) ?_|refine ap (by kernel_rfl) ?_|refine aq ?_|refine aZ ?_|refine aO (fun _=>?_)|refine aj ?_|refine aK ?_)
       refine sm ?_
     | (first|refine aC (by kernel_rfl) ?_|refine aH ?_|refine aJ ?_|refine aU (ai ?_))
       refine sl ?_
     | exact aP
     | first|apply aQ|apply aD|apply aR|apply aE|apply aS|apply aF
     | refine aw ?_
     | first|refine ar rfl ?_|refine au rfl ?_|refine af rfl ?_ ?_|refine ay rfl (fun _=>?_) (fun _=>?_)|refine ax rfl (fun _=>?_) (fun _=>?_)
     | ((first|refine ae (fun _=>?_) (fun _=>?_)|refine ah (fun _=>?_) (fun _=>?_))<;>try refine sm ?_)
     | refine And.intro trivial ?_
     | refine And.intro (by omega) ?_
     | refine aA rfl (fun _=>?_) (fun _=>?_)
     | refine And.intro ?_ ?_
   exact ab (h1.out fun j hj=>hr.out j (by omega))
theorem W3 {f:FuncId} {caps:List AV} {ok:List Blk→Prop} {q:Int→Bool} {xs:List Int} {i:Nat} (hq:Test f caps ok q) (hok:∀ l,ok (L.set i (.cells l))) (hn:xs.length≤1000000) (hL:L[i]?=some (.cells (bc xs)))
   (h:∀ z,K (.lsl i 0 (xs.filter fun x => !q x).length none 1) (L.set i (.cells (bc (xs.filter fun x => !q x)++bc (List.replicate z 0))))) :
   ao Tryz.prog 33 [.lsl i 0 xs.length none 1,.func f caps] L K:=by
 have hi:i<L.length:=(List.getElem?_eq_some_iff.1 hL).1
 have hset:∀ c,(L.set i c)[i]?=some c:=fun c=>by simp [hi]
 have hok0:ok L:=by have:=hok (bc xs);rwa [KS hL] at this
 replace hq:=hid hq
 replace hok:=hid hok
 refine ag dc (by simp [bh]) ?_
 simp only [bh,aN]
 repeat' first
   | refine aT ?_
   | (first|refine aG (by kernel_rfl) ?_|refine ap (by kernel_rfl) ?_|refine aq ?_|refine aZ ?_|refine aO (fun _=>?_)|refine aj ?_|refine aK ?_)
     refine sm ?_
   | (first|refine aC (by kernel_rfl) ?_|refine aH ?_|refine aJ ?_|refine aU (ai ?_))
     refine sl ?_
   | exact aP
   | first|apply aQ|apply aD|apply aR|apply aE|apply aS|apply aF
   | refine aw ?_
   | first|refine ar rfl ?_|refine au rfl ?_|refine af rfl ?_ ?_|refine ay rfl (fun _=>?_) (fun _=>?_)|refine ax rfl (fun _=>?_) (fun _=>?_)
   | ((first|refine ae (fun _=>?_) (fun _=>?_)|refine ah (fun _=>?_) (fun _=>?_))<;>try refine sm ?_)
   | refine And.intro trivial ?_
   | refine And.intro (by omega) ?_
   | refine aA rfl (fun _=>?_) (fun _=>?_)
   | refine And.intro ?_ ?_
 refine WZ (rest:=[]) hq.out hok0 hn (by simpa using hL) (fun hno=>?_) (fun a ha hpre hqa=>?_)
 · have hf:xs.filter (fun x => !q x)=xs:=List.filter_eq_self.2 fun x hx=>by
     obtain ⟨j,hj,rfl⟩:=List.mem_iff_getElem.1 hx
     have:=hno j hj
     simp [hj] at this;simp [this]
   have h0:=h 0
   rw [hf] at h0
   simp only [List.replicate_zero,List.map_nil,List.append_nil,KS hL] at h0
   replace h0:=hid h0
   clear h hf hno
   simp only [Kon,push_cast,reduceIte,Nat.reduceEqDiff,Nat.reduceAdd,Nat.reduceMul,Nat.reduceSub,Nat.reduceLT,Nat.reduceLeDiff,Int.reduceLT,Int.reduceLE,Int.reduceAdd,Int.reduceSub,Int.reduceNeg,Int.reduceToNat,Int.reduceEq,reduceCtorEq, *]
   repeat' first
     | refine aT ?_
     | (first|refine aG (by kernel_rfl) ?_|refine ap (by kernel_rfl) ?_|refine aq ?_|refine aZ ?_|refine aO (fun _=>?_)|refine aj ?_|refine aK ?_)
       refine sm ?_
     | (first|refine aC (by kernel_rfl) ?_|refine aH ?_|refine aJ ?_|refine aU (ai ?_))
       refine sl ?_
     | exact aP
     | first|apply aQ|apply aD|apply aR|apply aE|apply aS|apply aF
     | refine aw ?_
     | first|refine ar rfl ?_|refine au rfl ?_|refine af rfl ?_ ?_|refine ay rfl (fun _=>?_) (fun _=>?_)|refine ax rfl (fun _=>?_) (fun _=>?_)
     | ((first|refine ae (fun _=>?_) (fun _=>?_)|refine ah (fun _=>?_) (fun _=>?_))<;>try refine sm ?_)
     | refine And.intro trivial ?_
     | refine And.intro (by omega) ?_
     | refine aA rfl (fun _=>?_) (fun _=>?_)
     | refine And.intro ?_ ?_
   exact ab h0.out
 · replace h:=hid h
   replace hpre:=hid hpre
   replace hqa:=hid hqa
   have g1:(a:Int) ≠ -1:=by omega
   have g2:IntKind.i64.wrap ((a:Int)+1)=(a:Int)+1:=ac (by omega) (by omega)
   simp only [Kon,push_cast,reduceIte,Nat.reduceEqDiff,Nat.reduceAdd,Nat.reduceMul,Nat.reduceSub,Nat.reduceLT,Nat.reduceLeDiff,Int.reduceLT,Int.reduceLE,Int.reduceAdd,Int.reduceSub,Int.reduceNeg,Int.reduceToNat,Int.reduceEq,reduceCtorEq, *]
   repeat' first
     | refine aT ?_
     | (first|refine aG (by kernel_rfl) ?_|refine ap (by kernel_rfl) ?_|refine aq ?_|refine aZ ?_|refine aO (fun _=>?_)|refine aj ?_|refine aK ?_)
       refine sm ?_
     | (first|refine aC (by kernel_rfl) ?_|refine aH ?_|refine aJ ?_|refine aU (ai ?_))
       refine sl ?_
     | exact aP
     | first|apply aQ|apply aD|apply aR|apply aE|apply aS|apply aF
     | refine aw ?_
     | first|refine ar rfl ?_|refine au rfl ?_|refine af rfl ?_ ?_|refine ay rfl (fun _=>?_) (fun _=>?_)|refine ax rfl (fun _=>?_) (fun _=>?_)
     | ((first|refine ae (fun _=>?_) (fun _=>?_)|refine ah (fun _=>?_) (fun _=>?_))<;>try refine sm ?_)
     | refine And.intro trivial ?_
     | refine And.intro (by omega) ?_
     | refine aA rfl (fun _=>?_) (fun _=>?_)
     | refine And.intro ?_ ?_
   have hfx:∀ j,j<xs.length→xs.take (j+1)=xs.take j++[xs.getD j 0]:=fun j hj=>by
     rw [List.take_succ_eq_append_getElem hj];simp [hj]
   replace hfx:=hid hfx
   refine aI (fun n T' L'=>∃ (a j:Nat) (cs:List Int),n=xs.length - j∧a<j∧j≤xs.length∧cs.length=xs.length∧T'=[(6,.int .i64 (j:Int)),(5,.int .i64 (a:Int)),(0,.lsl i 0 xs.length none 1),(1,.func f caps)]∧L'=L.set i (.cells (bc cs)) ∧
     cs.take a=(xs.take j).filter (fun x => !q x)∧cs.drop j=xs.drop j) (n0:=xs.length - (a+1)) (T0:=[(6,.int .i64 ((a+1:Nat):Int)),(5,.int .i64 (a:Int)),(0,.lsl i 0 xs.length none 1),(1,.func f caps)]) (L0:=L.set i (.cells (bc xs))) (by rw [KS hL];exact CutS (b:=Nat.le_refl _))
     ⟨a,a+1,xs,rfl,by omega,ha,rfl,rfl,rfl,?_,rfl⟩ ?_
   · rw [hfx.out a ha,List.filter_append]
     have h1:(xs.take a).filter (fun x => !q x)=xs.take a:=List.filter_eq_self.2 fun x hx=>by
       obtain ⟨j,hj,rfl⟩:=List.mem_iff_getElem.1 hx
       rw [List.length_take] at hj
       have hj2:j<xs.length:=by omega
       have:=hpre.out j (by omega)
       simp [hj2] at this;simp [this]
     have h2:q (xs[a]?.getD 0)=true:=by have:=hqa.out;simpa using this
     simp [h1,h2]
   clear ha hpre hqa g1 g2
   clear a
   rintro _ _ _ ⟨a,j,cs,rfl,haj,hj,hcs,rfl,rfl,hta,hdr⟩
   replace hta:=hid hta
   replace hdr:=hid hdr
   replace hcs:=hid hcs
   by_cases hlt:j<xs.length
   · have g1:(j:Int)<(xs.length:Int):=by omega
     have g2:IntKind.i64.wrap ((j:Int)+1)=(j:Int)+1:=ac (by omega) (by omega)
     have g3:IntKind.i64.wrap ((a:Int)+1)=(a:Int)+1:=ac (by omega) (by omega)
     have hcj:cs.getD j 0=xs.getD j 0:=by
       have:=congrArg (fun l=>l[0]?) hdr.out
       simp only [List.getElem?_drop,Nat.add_zero] at this
       rw [List.getD_eq_getElem?_getD,List.getD_eq_getElem?_getD,this]
     have g4:(cs.map (AV.int .i64)).getD j .undef=.int .i64 (xs.getD j 0):=by
       rw [← hcj];simp [show j<cs.length by rw [hcs.out];exact hlt]
     have g5:List.take a (cs.map (AV.int .i64))++AV.int .i64 (xs.getD j 0)::List.drop (a+1) (cs.map (AV.int .i64))=(cs.set a (xs.getD j 0)).map (AV.int .i64):=by
       rw [List.set_eq_take_append_cons_drop,if_pos (by rw [hcs.out];omega)]
       simp
     have g6:cs.length=xs.length:=hcs.out
     replace hcj:=hid hcj
     repeat' first
       | refine aT ?_
       | (first|refine aG (by kernel_rfl) ?_|refine ap (by kernel_rfl) ?_|refine aq ?_|refine aZ ?_|refine aO (fun _=>?_)|refine aj ?_|refine aK ?_)
         refine sm ?_
       | (first|refine aC (by kernel_rfl) ?_|refine aH ?_|refine aJ ?_|refine aU (ai ?_))
         refine sl ?_
       | exact aP
       | first|apply aQ|apply aD|apply aR|apply aE|apply aS|apply aF
       | refine aw ?_
       | first|refine ar rfl ?_|refine au rfl ?_|refine af rfl ?_ ?_|refine ay rfl (fun _=>?_) (fun _=>?_)|refine ax rfl (fun _=>?_) (fun _=>?_)
       | ((first|refine ae (fun _=>?_) (fun _=>?_)|refine ah (fun _=>?_) (fun _=>?_))<;>try refine sm ?_)
       | refine And.intro trivial ?_
       | refine And.intro (by omega) ?_
       | refine aA rfl (fun _=>?_) (fun _=>?_)
       | refine And.intro ?_ ?_
     refine hq.out _ _ _ (hok.out _) ?_
     simp only [Kon,push_cast,reduceIte,Nat.reduceEqDiff,Nat.reduceAdd,Nat.reduceMul,Nat.reduceSub,Nat.reduceLT,Nat.reduceLeDiff,Int.reduceLT,Int.reduceLE,Int.reduceAdd,Int.reduceSub,Int.reduceNeg,Int.reduceToNat,Int.reduceEq,reduceCtorEq, *]
     rcases hqk:q (xs.getD j 0) with _|_
     · repeat' first
         | refine aT ?_
         | (first|refine aG (by kernel_rfl) ?_|refine ap (by kernel_rfl) ?_|refine aq ?_|refine aZ ?_|refine aO (fun _=>?_)|refine aj ?_|refine aK ?_)
           simp (config:={ maxSteps:=2000000 }) only [List.set_set,Kon,push_cast,reduceIte,Nat.reduceEqDiff,Nat.reduceAdd,Nat.reduceMul,Nat.reduceSub,Nat.reduceLT,Nat.reduceLeDiff,Int.reduceLT,Int.reduceLE,Int.reduceAdd,Int.reduceSub,Int.reduceNeg,Int.reduceToNat,Int.reduceEq,reduceCtorEq, *]
         | (first|refine aC (by kernel_rfl) ?_|refine aH ?_|refine aJ ?_|refine aU (ai ?_))
           refine sl ?_
         | exact aP
         | first|apply aQ|apply aD|apply aR|apply aE|apply aS|apply aF
         | refine aw ?_
         | first|refine ar rfl ?_|refine au rfl ?_|refine af rfl ?_ ?_|refine ay rfl (fun _=>?_) (fun _=>?_)|refine ax rfl (fun _=>?_) (fun _=>?_)
         | ((first|refine ae (fun _=>?_) (fun _=>?_)|refine ah (fun _=>?_) (fun _=>?_))<;>try simp (config:={ maxSteps:=2000000 }) only [List.set_set,Kon,push_cast,reduceIte,Nat.reduceEqDiff,Nat.reduceAdd,Nat.reduceMul,Nat.reduceSub,Nat.reduceLT,Nat.reduceLeDiff,Int.reduceLT,Int.reduceLE,Int.reduceAdd,Int.reduceSub,Int.reduceNeg,Int.reduceToNat,Int.reduceEq,reduceCtorEq, *])
         | refine And.intro trivial ?_
         | refine And.intro (by omega) ?_
         | refine aA rfl (fun _=>?_) (fun _=>?_)
         | refine And.intro ?_ ?_
       refine az _ _ _ ?_ (CutL (b:=by simp)) ⟨a+1,j+1,cs.set a (xs.getD j 0),rfl,by omega,hlt,by simp [g6],rfl,rfl,?_,?_⟩
       · omega
       · have hk:=hqk
         rw [hfx.out j hlt,List.filter_append,← hta.out,List.set_eq_take_append_cons_drop,if_pos (by omega)]
         simp only [List.filter_cons,hk,Bool.not_false,if_true,List.filter_nil]
         rw [List.take_append]
         have:(cs.take a).length=a:=by simp;omega
         rw [List.take_of_length_le (l:=cs.take a) (by omega)]
         simp [this]
       · rw [List.drop_set_of_lt (by omega)]
         have:=congrArg (List.drop 1) hdr.out
         simpa [List.drop_drop,Nat.add_comm] using this
     · repeat' first
         | refine aT ?_
         | (first|refine aG (by kernel_rfl) ?_|refine ap (by kernel_rfl) ?_|refine aq ?_|refine aZ ?_|refine aO (fun _=>?_)|refine aj ?_|refine aK ?_)
           refine sm ?_
         | (first|refine aC (by kernel_rfl) ?_|refine aH ?_|refine aJ ?_|refine aU (ai ?_))
           refine sl ?_
         | exact aP
         | first|apply aQ|apply aD|apply aR|apply aE|apply aS|apply aF
         | refine aw ?_
         | first|refine ar rfl ?_|refine au rfl ?_|refine af rfl ?_ ?_|refine ay rfl (fun _=>?_) (fun _=>?_)|refine ax rfl (fun _=>?_) (fun _=>?_)
         | ((first|refine ae (fun _=>?_) (fun _=>?_)|refine ah (fun _=>?_) (fun _=>?_))<;>try refine sm ?_)
         | refine And.intro trivial ?_
         | refine And.intro (by omega) ?_
         | refine aA rfl (fun _=>?_) (fun _=>?_)
         | refine And.intro ?_ ?_
       refine az _ _ _ ?_ (CutL (b:=by simp)) ⟨a,j+1,cs,rfl,by omega,hlt,by simp [g6],rfl,rfl,?_,?_⟩
       · omega
       · have hk:=hqk
         rw [hfx.out j hlt,List.filter_append,← hta.out]
         simp only [List.filter_cons,hk,Bool.not_true,Bool.false_eq_true,if_false,List.filter_nil,List.append_nil]
       · have:=congrArg (List.drop 1) hdr.out
         simpa [List.drop_drop,Nat.add_comm] using this
   · have g1:¬ (j:Int)<(xs.length:Int):=by omega
     have g6:cs.length=xs.length:=hcs.out
     have hrep:∀ k,cY [AV.int .i64 0] k=(List.replicate k (0:Int)).map (AV.int .i64):=by
       intro k
       induction k with
       | zero=>rfl
       | succ k ih=>simp [cY,ih,List.replicate_succ]
     have hjx:j=xs.length:=by omega
     have ht2:cs.take a=xs.filter (fun x => !q x):=by rw [hta.out,hjx,List.take_length]
     have hla:(xs.filter fun x => !q x).length=a:=by rw [← ht2];simp;omega
     have ht3:List.take a (cs.map (AV.int .i64))=(xs.filter fun x => !q x).map (AV.int .i64):=by rw [← List.map_take,ht2]
     have hd:List.drop (a+(xs.length - a)) (cs.map (AV.int .i64))=[]:=List.drop_eq_nil_of_le (by simp;omega)
     have hfin:=h.out (xs.length - a)
     rw [hla] at hfin
     replace hfin:=hid hfin
     clear hjx ht2 hla
     repeat' first
       | refine aT ?_
       | (first|refine aG (by kernel_rfl) ?_|refine ap (by kernel_rfl) ?_|refine aq ?_|refine aZ ?_|refine aO (fun _=>?_)|refine aj ?_|refine aK ?_)
         simp (config:={ maxSteps:=2000000 }) only [List.set_set,hrep,List.length_replicate,Kon,push_cast,reduceIte,Nat.reduceEqDiff,Nat.reduceAdd,Nat.reduceMul,Nat.reduceSub,Nat.reduceLT,Nat.reduceLeDiff,Int.reduceLT,Int.reduceLE,Int.reduceAdd,Int.reduceSub,Int.reduceNeg,Int.reduceToNat,Int.reduceEq,reduceCtorEq, *]
       | (first|refine aC (by kernel_rfl) ?_|refine aH ?_|refine aJ ?_|refine aU (ai ?_))
         refine sl ?_
       | exact aP
       | first|apply aQ|apply aD|apply aR|apply aE|apply aS|apply aF
       | refine aw ?_
       | first|refine ar rfl ?_|refine au rfl ?_|refine af rfl ?_ ?_|refine ay rfl (fun _=>?_) (fun _=>?_)|refine ax rfl (fun _=>?_) (fun _=>?_)
       | ((first|refine ae (fun _=>?_) (fun _=>?_)|refine ah (fun _=>?_) (fun _=>?_))<;>try simp (config:={ maxSteps:=2000000 }) only [List.set_set,hrep,List.length_replicate,Kon,push_cast,reduceIte,Nat.reduceEqDiff,Nat.reduceAdd,Nat.reduceMul,Nat.reduceSub,Nat.reduceLT,Nat.reduceLeDiff,Int.reduceLT,Int.reduceLE,Int.reduceAdd,Int.reduceSub,Int.reduceNeg,Int.reduceToNat,Int.reduceEq,reduceCtorEq, *])
       | refine And.intro trivial ?_
       | refine And.intro (by omega) ?_
       | refine aA rfl (fun _=>?_) (fun _=>?_)
       | refine And.intro ?_ ?_
     exact ab hfin.out
theorem ZY (xs:List Int):(xs.map (AV.int .i64)).all AV.one=true:=by rw [List.all_map];simp [AV.one]
attribute [push_cast] ZY
def ins (xs:List Int) (k:Nat) (x:Int):List Int:=xs.take k++x::xs.drop k
theorem V7 {l:List AV} {n:Nat} {cap:Option Nat} {i off m s:Nat} {cp:Option Nat} {l2:List AV} (hl:n=0∨l≠[]) (hL:L[i]?=some (.cells l2)) (hpos:0<s) (h:K (.bool false) L) :
   ao Tryz.prog 53 [.sl l n cap,.lsl i off m cp s] L K :=
 PE (fn:=Tryz.f53) (tS:=33) (tR:=4) (e:=2) (sz:=1) (by kernel_rfl) (by kernel_rfl) (by kernel_rfl) (by kernel_rfl) (by kernel_rfl) (by kernel_rfl) (by kernel_rfl) hl hL hpos h
theorem Tw {x:Int} {cap:Option Nat} (h:∀ rest,K (.lsl L.length 0 1 none 1) (L++[.cells (.int .i64 x::rest)])) :
   ao Tryz.prog 36 [.sl [] 0 (some 0),.int .i64 0,.sl [.int .i64 x] 1 cap] L K:=by
 replace h:=hid (h [])
 refine ag ed (by simp [bG]) ?_
 simp only [bG,aN]
 repeat' first
   | refine aT ?_
   | (first|refine aG (by kernel_rfl) ?_|refine ap (by kernel_rfl) ?_|refine aq ?_|refine aZ ?_|refine aO (fun _=>?_)|refine aj ?_|refine aK ?_)
     refine sm ?_
   | (first|refine aC (by kernel_rfl) ?_|refine aH ?_|refine aJ ?_|refine aU (ai ?_))
     refine sl ?_
   | exact aP
   | first|apply aQ|apply aD|apply aR|apply aE|apply aS|apply aF
   | refine aw ?_
   | first|refine ar rfl ?_|refine au rfl ?_|refine af rfl ?_ ?_|refine ay rfl (fun _=>?_) (fun _=>?_)|refine ax rfl (fun _=>?_) (fun _=>?_)
   | ((first|refine ae (fun _=>?_) (fun _=>?_)|refine ah (fun _=>?_) (fun _=>?_))<;>try refine sm ?_)
   | refine And.intro trivial ?_
   | refine And.intro (by omega) ?_
   | refine aA rfl (fun _=>?_) (fun _=>?_)
   | refine And.intro ?_ ?_
 exact N3 L.length (.cells [.int .i64 x]) rfl (Nat.le_refl _) (by simp) (by simp [AV.refs]) (by simp [Blk.refs,AV.refsL,AV.refs]) (by simpa [AV.ren] using h.out)
theorem Wg {xs:List Int} {k:Nat} {x:Int} {i:Nat} {rest:List AV} {cap:Option Nat} (hn:xs.length≤1000000) (hk:k≤xs.length) (hrest:∀ a∈rest,a.refs (fun i=>decide (i<L.length))=true) (hL:L[i]?=some (.cells (bc xs++rest)))
   (h:∀ rest,(∀ a∈rest,a.refs (fun i=>decide (i<L.length))=true)→K (.lsl L.length 0 (xs.length+1) none 1) (L.set i .dead++[.cells (bc (ins xs k x)++rest)])) :
   ao Tryz.prog 36 [.lsl i 0 xs.length none 1,.int .i64 k,.sl [.int .i64 x] 1 cap] L K:=by
 have h1s:=ZY xs
 clear h1s
 have hi:i<L.length:=(List.getElem?_eq_some_iff.1 hL).1
 have hset:∀ c,(L.set i c)[i]?=some c:=fun c=>by simp [hi]
 replace h:=hid h
 refine ag ed (by simp [bG]) ?_
 simp only [bG,aN]
 refine WM 0 rfl fun cp hcp=>?_
 by_cases hke:k=xs.length
 · subst hke
   have g2:List.take xs.length (xs.map (AV.int .i64)++rest)=xs.map (AV.int .i64):=by rw [List.take_append];simp [List.take_of_length_le]
   have hfin:=h.out [] (by simp)
   rw [show bc (ins xs xs.length x)++[]=xs.map (AV.int .i64)++[.int .i64 x] by simp [ins]] at hfin
   replace hfin:=hid hfin
   repeat' first
     | refine aT ?_
     | (first|refine aG (by kernel_rfl) ?_|refine ap (by kernel_rfl) ?_|refine aq ?_|refine aZ ?_|refine aO (fun _=>?_)|refine aj ?_|refine aK ?_)
       refine sm ?_
     | (first|refine aC (by kernel_rfl) ?_|refine aH ?_|refine aJ ?_|refine aU (ai ?_))
       refine sl ?_
     | exact aP
     | first|apply aQ|apply aD|apply aR|apply aE|apply aS|apply aF
     | refine aw ?_
     | first|refine ar rfl ?_|refine au rfl ?_|refine af rfl ?_ ?_|refine ay rfl (fun _=>?_) (fun _=>?_)|refine ax rfl (fun _=>?_) (fun _=>?_)
     | ((first|refine ae (fun _=>?_) (fun _=>?_)|refine ah (fun _=>?_) (fun _=>?_))<;>try refine sm ?_)
     | refine And.intro trivial ?_
     | refine And.intro (by omega) ?_
     | refine aA rfl (fun _=>?_) (fun _=>?_)
     | refine And.intro ?_ ?_
   exact Ml (L1:=L.set i .dead) L.length (.cells (xs.map (AV.int .i64)++[.int .i64 x])) rfl (by simp) IJ (Nat.le_refl _) (by simp) (by simp [AV.refs]) (by
     simp only [Blk.refs,AV.refsL_iff,List.mem_append,List.mem_singleton]
     rintro a (h|rfl)
     · exact AV.refsL_iff.1 (dx xs) a h
     · rfl) (by simpa [AV.ren] using hfin.out)
 have g1:¬ (k:Int)=(xs.length:Int):=by omega
 have g2:IntKind.i64.wrap ((xs.length:Int)+1)=(xs.length:Int)+1:=ac (by omega) (by omega)
 have g3:IntKind.i64.wrap ((k:Int)+1)=(k:Int)+1:=ac (by omega) (by omega)
 have g4:IntKind.i64.wrap ((xs.length:Int)+1 - (k:Int))=(xs.length:Int)+1 - (k:Int):=ac (by omega) (by omega)
 have g5:((xs.length:Int)+1).toNat=xs.length+1:=by omega
 have g6:((k:Int)+1).toNat=k+1:=by omega
 have g7:((xs.length:Int)+1 - (k:Int)).toNat=xs.length+1 - k:=by omega
 by_cases hroom:xs.length+1≤cp
 · have g8:¬ (cp:Int)<(xs.length:Int)+1:=by omega
   refine WL 0 rfl hL (by omega) ?_
   simp only [Nat.zero_add,Nat.mul_one]
   obtain ⟨R,hR⟩:∃ R,R=rest++List.replicate (cp - (bc xs++rest).length) AV.undef:=⟨_,rfl⟩
   rw [List.append_assoc,← hR]
   have hRl:cp≤xs.length+R.length:=by rw [hR];simp;omega
   have hRr:∀ a∈R,a.refs (fun i=>decide (i<L.length))=true:=fun a ha=>by
     rw [hR,List.mem_append] at ha
     rcases ha with h|h
     · exact hrest a h
     · obtain ⟨_,rfl⟩:=List.mem_replicate.1 h;rfl
   replace hRr:=hid hRr
   clear hR
   have gm:min (xs.length+1 - k) (xs.length+1 - (k+1))=xs.length - k:=by omega
   have gm2:min 1 (xs.length+1 - k)=1:=by omega
   have hA:List.take (xs.length - k) (List.take (xs.length+1 - k) (List.drop k (xs.map (AV.int .i64)++R)))=(xs.drop k).map (AV.int .i64):=by
     rw [List.take_take,List.drop_append,List.take_append]
     have h1:min (xs.length - k) (xs.length+1 - k)=xs.length - k:=by omega
     simp [h1,List.take_of_length_le]
   have hlt1:(List.take (k+1) (xs.map (AV.int .i64)++R)).length=k+1:=by simp;omega
   have hB:∀ Z,List.take k (List.take (k+1) (xs.map (AV.int .i64)++R)++Z)=(xs.take k).map (AV.int .i64):=fun Z=>by
     rw [List.take_append_of_le_length (by omega),List.take_take,Nat.min_eq_left (by omega),List.take_append_of_le_length (by simp;omega)];simp
   have hC:∀ Z,List.drop (k+1) (List.take (k+1) (xs.map (AV.int .i64)++R)++Z)=Z:=fun Z=>by
     rw [List.drop_append_of_le_length (by omega),List.drop_of_length_le (by omega)];simp
   clear hlt1
   have hfin:=h.out (List.drop (k+1+(xs.length - k)) (xs.map (AV.int .i64)++R)) (fun a ha=>by
     have:=List.mem_of_mem_drop ha
     rcases List.mem_append.1 this with h1|h1
     · exact AV.refsL_iff.1 (dx xs) a h1
     · exact hRr.out a h1)
   have hrf:∀ a∈(xs.take k).map (AV.int .i64)++AV.int .i64 x::((xs.drop k).map (AV.int .i64)++List.drop (k+1+(xs.length - k)) (xs.map (AV.int .i64)++R)),a.refs (fun i=>decide (i<L.length))=true:=fun a ha=>by
     simp only [List.mem_append,List.mem_cons,List.mem_map] at ha
     rcases ha with ⟨y,_,rfl⟩|rfl|⟨y,_,rfl⟩|h1
     · rfl
     · rfl
     · rfl
     · have:=List.mem_of_mem_drop h1
       rcases List.mem_append.1 this with h1|h1
       · exact AV.refsL_iff.1 (dx xs) a h1
       · exact hRr.out a h1
   replace hrf:=hid hrf
   rw [show bc (ins xs k x)++List.drop (k+1+(xs.length - k)) (xs.map (AV.int .i64)++R)=(xs.take k).map (AV.int .i64)++AV.int .i64 x::((xs.drop k).map (AV.int .i64)++List.drop (k+1+(xs.length - k)) (xs.map (AV.int .i64)++R)) by simp [ins]] at hfin
   replace hfin:=hid hfin
   repeat' first
     | refine aT ?_
     | (first|refine aG (by kernel_rfl) ?_|refine ap (by kernel_rfl) ?_|refine aq ?_|refine aZ ?_|refine aO (fun _=>?_)|refine aj ?_|refine aK ?_|refine V7 (.inr (by simp)) (hset _) (by omega) ?_)
       simp (config:={ maxSteps:=2000000 }) only [List.set_set,List.length_take,List.length_drop,Kon,push_cast,reduceIte,Nat.reduceEqDiff,Nat.reduceAdd,Nat.reduceMul,Nat.reduceSub,Nat.reduceLT,Nat.reduceLeDiff,Int.reduceLT,Int.reduceLE,Int.reduceAdd,Int.reduceSub,Int.reduceNeg,Int.reduceToNat,Int.reduceEq,reduceCtorEq, *]
     | (first|refine aC (by kernel_rfl) ?_|refine aH ?_|refine aJ ?_|refine aU (ai ?_))
       refine sl ?_
     | exact aP
     | first|apply aQ|apply aD|apply aR|apply aE|apply aS|apply aF
     | refine aw ?_
     | first|refine ar rfl ?_|refine au rfl ?_|refine af rfl ?_ ?_|refine ay rfl (fun _=>?_) (fun _=>?_)|refine ax rfl (fun _=>?_) (fun _=>?_)
     | ((first|refine ae (fun _=>?_) (fun _=>?_)|refine ah (fun _=>?_) (fun _=>?_))<;>try simp (config:={ maxSteps:=2000000 }) only [List.set_set,List.length_take,List.length_drop,Kon,push_cast,reduceIte,Nat.reduceEqDiff,Nat.reduceAdd,Nat.reduceMul,Nat.reduceSub,Nat.reduceLT,Nat.reduceLeDiff,Int.reduceLT,Int.reduceLE,Int.reduceAdd,Int.reduceSub,Int.reduceNeg,Int.reduceToNat,Int.reduceEq,reduceCtorEq, *])
     | refine And.intro trivial ?_
     | refine And.intro (by omega) ?_
     | refine aA rfl (fun _=>?_) (fun _=>?_)
     | refine And.intro ?_ ?_
   refine Ut (WG (hset _) ?_)
   rw [List.set_set]
   refine Ml (L1:=L.set i .dead) (L.set i .dead).length (.cells ((xs.take k).map (AV.int .i64)++AV.int .i64 x::((xs.drop k).map (AV.int .i64)++List.drop (k+1+(xs.length - k)) (xs.map (AV.int .i64)++R)))) rfl (by simp) IJ (by simp) (by simp) (by simp [AV.refs]) (AV.refsL_iff.2 hrf.out) ?_
   simpa [AV.ren] using hfin.out
 · have g8:(cp:Int)<(xs.length:Int)+1:=by omega
   have g9:k+(xs.length+1 - k)=xs.length+1:=by omega
   have g10:((k:Int)+((xs.length+1 - k:Nat):Int)).toNat - k=xs.length+1 - k:=by omega
   have gm2:min 1 (xs.length+1 - k)=1:=by omega
   have gm3:min (xs.length - k) (xs.length+1 - (k+1))=xs.length - k:=by omega
   have hrep:∀ k,cY [AV.int .i64 0] k=(List.replicate k (0:Int)).map (AV.int .i64):=by
     intro k
     induction k with
     | zero=>rfl
     | succ k ih=>simp [cY,ih,List.replicate_succ]
   have hLX:∀ X:List Blk,(L++X)[i]?=some (.cells (xs.map (AV.int .i64)++rest)):=fun X=>by rw [List.getElem?_append_left hi];exact hL
   have hT:∀ Z,List.take k (List.take k (xs.map (AV.int .i64)++rest)++Z)=(xs.take k).map (AV.int .i64):=fun Z=>by
     have:(List.take k (xs.map (AV.int .i64)++rest)).length=k:=by simp;omega
     rw [List.take_append_of_le_length (by omega),List.take_take,Nat.min_self,List.take_append_of_le_length (by simp;omega)];simp
   have hT2:∀ Z,List.take (k+1) ((xs.take k).map (AV.int .i64)++AV.int .i64 x::Z)=(xs.take k).map (AV.int .i64)++[AV.int .i64 x]:=fun Z=>by
     have:((xs.take k).map (AV.int .i64)).length=k:=by simp;omega
     rw [List.take_append,this,List.take_of_length_le (l:=(xs.take k).map (AV.int .i64)) (by omega)];simp
   have hA:List.take (xs.length - k) (List.take (xs.length - k) (List.drop k (xs.map (AV.int .i64)++rest)))=(xs.drop k).map (AV.int .i64):=by
     rw [List.take_take,Nat.min_self,List.drop_append,List.take_append]
     simp [List.take_of_length_le]
   have hD2:List.drop (k+1+(xs.length - k)) ((xs.take k).map (AV.int .i64)++AV.int .i64 x::List.drop (k+1) (List.take k (xs.map (AV.int .i64)++rest)++(List.replicate (xs.length+1 - k) (0:Int)).map (AV.int .i64)))=[]:=List.drop_eq_nil_of_le (by simp;omega)
   have hfin:=h.out [] (by simp)
   rw [show bc (ins xs k x)++[]=(xs.take k).map (AV.int .i64)++AV.int .i64 x::(xs.drop k).map (AV.int .i64) by simp [ins]] at hfin
   replace hfin:=hid hfin
   repeat' first
     | refine aT ?_
     | (first|refine aG (by kernel_rfl) ?_|refine ap (by kernel_rfl) ?_|refine aq ?_|refine aZ ?_|refine aO (fun _=>?_)|refine aj ?_|refine aK ?_)
       simp (config:={ maxSteps:=2000000 }) only [List.set_set,List.length_take,List.length_drop,List.length_replicate,Kon,push_cast,reduceIte,Nat.reduceEqDiff,Nat.reduceAdd,Nat.reduceMul,Nat.reduceSub,Nat.reduceLT,Nat.reduceLeDiff,Int.reduceLT,Int.reduceLE,Int.reduceAdd,Int.reduceSub,Int.reduceNeg,Int.reduceToNat,Int.reduceEq,reduceCtorEq, *]
     | (first|refine aC (by kernel_rfl) ?_|refine aH ?_|refine aJ ?_|refine aU (ai ?_))
       refine sl ?_
     | exact aP
     | first|apply aQ|apply aD|apply aR|apply aE|apply aS|apply aF
     | refine aw ?_
     | first|refine ar rfl ?_|refine au rfl ?_|refine af rfl ?_ ?_|refine ay rfl (fun _=>?_) (fun _=>?_)|refine ax rfl (fun _=>?_) (fun _=>?_)
     | ((first|refine ae (fun _=>?_) (fun _=>?_)|refine ah (fun _=>?_) (fun _=>?_))<;>try simp (config:={ maxSteps:=2000000 }) only [List.set_set,List.length_take,List.length_drop,List.length_replicate,Kon,push_cast,reduceIte,Nat.reduceEqDiff,Nat.reduceAdd,Nat.reduceMul,Nat.reduceSub,Nat.reduceLT,Nat.reduceLeDiff,Int.reduceLT,Int.reduceLE,Int.reduceAdd,Int.reduceSub,Int.reduceNeg,Int.reduceToNat,Int.reduceEq,reduceCtorEq, *])
     | refine And.intro trivial ?_
     | refine And.intro (by omega) ?_
     | refine aA rfl (fun _=>?_) (fun _=>?_)
     | refine And.intro ?_ ?_
   refine Ur i ?_
   rw [List.set_append_left _ _ hi]
   refine Ml (L1:=L.set i .dead) L.length (.cells ((xs.take k).map (AV.int .i64)++AV.int .i64 x::(xs.drop k).map (AV.int .i64))) rfl (by simp) IJ (by simp) (by simp) (by simp [AV.refs]) (AV.refsL_iff.2 ?_) ?_
   · intro a ha
     simp only [List.mem_append,List.mem_cons,List.mem_map] at ha
     rcases ha with ⟨y,_,rfl⟩|rfl|⟨y,_,rfl⟩<;>rfl
   · simpa [AV.ren] using hfin.out
end Go.Proofs.YtolfghcbbpcciaaGreatDoor.Av
