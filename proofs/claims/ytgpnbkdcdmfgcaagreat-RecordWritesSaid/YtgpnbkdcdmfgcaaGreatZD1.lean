/- Joined texts of the walk, made small by a program. -/
import Derived.Test.YtgpnbkdcdmfgcaaGreatZP4
import Derived.Test.YtgpnbkdcdmfgcaaGreatRows
import Derived.KernelRfl
import Derived.Test.YtgpnbkdcdmfgcaaGreatZO1
import Derived.Test.YtgpnbkdcdmfgcaaGreatZShelfP
import Derived.Laws.RangeAny
import Derived.Laws.RangeString
import Derived.Test.YtgpnbkdcdmfgcaaGreatZP5
set_option linter.unusedSimpArgs false
set_option linter.unusedVariables false
set_option maxRecDepth 100000
namespace Go.Proofs.YtgpnbkdcdmfgcaaGreat.Av
open Go
def yq:List SOp :=
 [o1 2 (.mv (.av (.bool false)))]
def yp:List SOp :=
 [o1 5 (.mv (tm 0)),
 o1 6 (.bin .eql (tm 5) (.av (.str []))),
 o1 7 (.mv (tm 6)),
 .grp none 7 false
 [og 8 7 false (.mv (tm 0)),
 og 9 7 false (.len true (tm 8)),
 og 10 7 false (.bin .gtr (tm 9) (iv 32))]
 11 (tm 10),
 o1 12 (.mv (tm 11)),
 .grp none 12 false
 [og 13 12 false (.mv (tm 0)),
 og 14 12 false (.idxS (tm 13) (iv 0)),
 og 15 12 false (.conv .i32 (tm 14)),
 og 16 12 false (.call 90 [(tm 15)]),
 og 17 12 false (.un .not (tm 16))]
 18 (tm 17)]
def yo:List SOp :=
 [o1 2 (.mv (.av (.bool false)))]
def yn:List SOp :=
 [o1 19 (.mv (tm 0)),
 o1 20 (.rangeS (tm 19))]
def ym:List SOp :=
 [o1 21 (.nextS (tm 20)),
 o1 22 (.extract (tm 21) 0)]
def yl:List SOp :=
 [o1 23 (.extract (tm 21) 2),
 o1 4 (.mv (tm 23))]
def yk:List SOp :=
 [o1 24 (.mv (tm 4)),
 o1 25 (.call 90 [(tm 24)]),
 o1 26 (.un .not (tm 25)),
 o1 27 (.mv (tm 26)),
 .grp none 27 true
 [og 28 27 true (.mv (tm 4)),
 og 29 27 true (.bin .lss (tm 28) (.av (.int .i32 48))),
 og 30 27 true (.mv (tm 29)),
 .grp (some (27,true)) 30 false
 [og 31 30 false (.mv (tm 4)),
 og 32 30 false (.bin .gtr (tm 31) (.av (.int .i32 57)))]
 33 (tm 32)]
 34 (tm 33),
 o1 35 (.mv (tm 34)),
 .grp none 35 true
 [og 36 35 true (.mv (tm 4)),
 og 37 35 true (.bin .neq (tm 36) (.av (.int .i32 45)))]
 38 (tm 37)]
def yj:List SOp :=
 [o1 2 (.mv (.av (.bool false)))]
def yi:List SOp :=
 [o1 2 (.mv (.av (.bool true)))]
def xH:aJ:=⟨39,(.seq (.sreg yq [])
 (.seq (.seq (.sreg yp [true,false,false,false,false,false])
 (.cond (tm 18) (.seq (.sreg yo [])
 .ret)
 .skip))
 (.seq (.seq (.sreg yn [true,false])
 (.block 0 (.loop (.seq (.sreg ym [])
 (.seq (.cond (tm 22) .skip
 (.exit 0))
 (.block 1 (.seq (.sreg yl [true,false])
 (.seq (.sreg yk [true,false,false,false,false,false,false])
 (.cond (tm 38) (.seq (.sreg yj [])
 .ret)
 .skip)))))))))
 (.seq (.sreg yi [])
 .ret)))),[(.tmp 2)]⟩
attribute [push_cast] yq yp yo yn ym yl yk yj yi
theorem BW:aN Tryz.prog (fun _ _=>1) 62=some xH.raw:=by kernel_rfl
def tQ:List SOp :=
 [o1 2 (.mv (.av (.bool false)))]
def tP:List SOp :=
 [o1 3 (.mv (tm 0)),
 o1 4 (.bin .geq (tm 3) (.av (.int .i32 97))),
 o1 5 (.mv (tm 4)),
 .grp none 5 true
 [og 6 5 true (.mv (tm 0)),
 og 7 5 true (.bin .leq (tm 6) (.av (.int .i32 122)))]
 8 (tm 7),
 o1 9 (.mv (tm 8)),
 .grp none 9 false
 [og 10 9 false (.mv (tm 0)),
 og 11 9 false (.bin .geq (tm 10) (.av (.int .i32 65))),
 og 12 9 false (.mv (tm 11)),
 .grp (some (9,false)) 12 true
 [og 13 12 true (.mv (tm 0)),
 og 14 12 true (.bin .leq (tm 13) (.av (.int .i32 90)))]
 15 (tm 14)]
 16 (tm 15),
 o1 2 (.mv (tm 16))]
def ry:aJ:=⟨17,(.seq (.sreg tQ [])
 (.seq (.sreg tP [true,false,false,false,false,false,false])
 .ret)),[(.tmp 2)]⟩
attribute [push_cast] tQ tP
theorem As:aN Tryz.prog (fun _ _=>1) 90=some ry.raw:=by kernel_rfl
def zE:List SOp :=
 [o1 3 (.box (tm 1)),
 o1 4 (.mv (.av (.bool false)))]
def zD:List SOp :=
 [o1 5 (.mv (tm 0)),
 o1 6 (.mkfn 92 [(tm 3)]),
 o1 7 (.call 91 [(tm 5),(tm 6)]),
 o1 4 (.mv (tm 7))]
def At:aJ:=⟨8,(.seq (.sreg zE [])
 (.seq (.sreg zD [true,false,false,false])
 .ret)),[(.tmp 4)]⟩
attribute [push_cast] zE zD
theorem CM:aN Tryz.prog (fun _ _=>1) 63=some At.raw:=by kernel_rfl
def wu:List SOp :=
 [o1 2 (.box (tm 0)),
 o1 3 (.mv (.av (.bool false)))]
def wr:List SOp :=
 [o1 4 (.faddr 0 (tm 2)),
 o1 5 (.load false 1 (tm 4)),
 o1 6 (.call 64 [(tm 5)]),
 o1 7 (.load false 1 (tm 1)),
 o1 8 (.call 64 [(tm 7)]),
 o1 9 (.bin .eql (tm 6) (tm 8)),
 o1 3 (.mv (tm 9))]
def uV:aJ:=⟨10,(.seq (.sreg wu [])
 (.seq (.sdreg wr [.pure,(.read 0 0),(.read 0 0),(.read 0 0)] [true,false,false,false,false,false,false])
 .ret)),[(.tmp 3)]⟩
attribute [push_cast] wu wr
theorem AN:aN Tryz.prog (fun _ _=>1) 92=some uV.raw:=by kernel_rfl
def wg:List SOp :=
 [o1 2 (.mv (.av (.str []))),
 o1 3 (.mv (.av (.str []))),
 o1 4 (.mv (.av (.bool false)))]
def wc:List SOp :=
 [o1 5 (.mv (.av (.sl [] 0 (some 0))))]
def wb:List SOp :=
 [o1 6 (.mv (.av (.bool false)))]
def wa:List SOp :=
 [o1 7 (.mv (iv 0))]
def v8:List SOp :=
 [o1 11 (.mv (tm 7)),
 o1 12 (.mv (tm 0)),
 o1 13 (.len true (tm 12)),
 o1 14 (.bin .lss (tm 11) (tm 13)),
 o1 15 (.mv (tm 14)),
 .grp none 15 true
 [og 16 15 true (.mv (tm 0)),
 og 17 15 true (.mv (tm 7)),
 og 18 15 true (.idxS (tm 16) (tm 17)),
 og 19 15 true (.bin .neq (tm 18) (.av (.int .u8 44)))]
 20 (tm 19),
 o1 21 (.mv (tm 20)),
 .grp none 21 true
 [og 22 21 true (.mv (tm 0)),
 og 23 21 true (.mv (tm 7)),
 og 24 21 true (.idxS (tm 22) (tm 23)),
 og 25 21 true (.bin .neq (tm 24) (.av (.int .u8 43)))]
 26 (tm 25)]
def v7:List SOp :=
 [o1 27 (.mv (tm 0)),
 o1 28 (.mv (tm 7)),
 o1 29 (.idxS (tm 27) (tm 28)),
 o1 8 (.mv (tm 29))]
def v6:List SOp :=
 [o1 30 (.mv (tm 8)),
 o1 31 (.bin .eql (tm 30) (.av (.int .u8 32))),
 o1 6 (.mv (tm 31))]
def vZ:List SOp :=
 [o1 33 (.mv (tm 8)),
 o1 34 (.bin .neq (tm 33) (.av (.int .u8 92))),
 o1 32 (.mv (tm 34))]
def vY:List SOp :=
 [o1 35 (.mv (tm 8)),
 o1 36 (.bin .eql (tm 35) (.av (.int .u8 0))),
 o1 37 (.mv (tm 36)),
 .grp none 37 false
 [og 38 37 false (.mv (tm 8)),
 og 39 37 false (.call 93 [(.av (.str [34,59,60,62])),(tm 38)]),
 og 40 37 false (.bin .geq (tm 39) (iv 0))]
 41 (tm 40),
 o1 42 (.mv (tm 41)),
 .grp none 42 false
 [og 43 42 false (.mv (tm 5)),
 og 44 42 false (.len false (tm 43)),
 og 45 42 false (.bin .eql (tm 44) (iv 0)),
 og 46 42 false (.mv (tm 45)),
 .grp (some (42,false)) 46 true
 [og 47 46 true (.mv (tm 8)),
 og 48 46 true (.bin .eql (tm 47) (.av (.int .u8 32))),
 og 49 46 true (.mv (tm 48)),
 .grp (some (46,true)) 49 false
 [og 50 49 false (.mv (tm 8)),
 og 51 49 false (.bin .eql (tm 50) (.av (.int .u8 35)))]
 52 (tm 51)]
 53 (tm 52)]
 54 (tm 53)]
def vX:List SOp :=
 [o1 2 (.mv (.av (.str []))),
 o1 3 (.mv (.av (.str []))),
 o1 4 (.mv (.av (.bool false)))]
def tM:List SOp :=
 [o1 56 (.mv (tm 7)),
 o1 57 (.bin .add (tm 56) (iv 1)),
 o1 58 (.mv (tm 0)),
 o1 59 (.len true (tm 58)),
 o1 60 (.bin .lss (tm 57) (tm 59)),
 o1 61 (.mv (tm 60)),
 .grp none 61 true
 [og 62 61 true (.mv (tm 0)),
 og 63 61 true (.mv (tm 7)),
 og 64 61 true (.bin .add (tm 63) (iv 1)),
 og 65 61 true (.idxS (tm 62) (tm 64)),
 og 66 61 true (.call 93 [(.av (.str [34,43,44,59,60,62,92,32,35,61])),(tm 65)]),
 og 67 61 true (.bin .geq (tm 66) (iv 0))]
 68 (tm 67),
 o1 55 (.mv (tm 68))]
def tL:List SOp :=
 [o1 69 (.mv (tm 7)),
 o1 70 (.bin .add (tm 69) (iv 1)),
 o1 7 (.mv (tm 70))]
def tK:List SOp :=
 [o1 71 (.mv (tm 0)),
 o1 72 (.mv (tm 7)),
 o1 73 (.idxS (tm 71) (tm 72)),
 o1 8 (.mv (tm 73))]
def tJ:List SOp :=
 [o1 75 (.mv (tm 7)),
 o1 76 (.bin .add (tm 75) (iv 2)),
 o1 77 (.mv (tm 0)),
 o1 78 (.len true (tm 77)),
 o1 79 (.bin .lss (tm 76) (tm 78)),
 o1 74 (.mv (tm 79))]
def tI:List SOp :=
 [o1 81 (.mv (tm 0)),
 o1 82 (.mv (tm 7)),
 o1 83 (.bin .add (tm 82) (iv 1)),
 o1 84 (.mv (tm 7)),
 o1 85 (.bin .add (tm 84) (iv 3)),
 o1 86 (.slS (tm 81) (some (tm 83)) (some (tm 85))),
 o1 87 (.call 101 [(tm 86)]),
 o1 80 (.mv (tm 87)),
 o1 88 (.extract (tm 80) 0),
 o1 89 (.extract (tm 80) 1),
 o1 9 (.mv (tm 88)),
 o1 10 (.mv (tm 89))]
def tH:List SOp :=
 [o1 90 (.mv (tm 10)),
 o1 91 (.un .not (tm 90))]
def tG:List SOp :=
 [o1 2 (.mv (.av (.str []))),
 o1 3 (.mv (.av (.str []))),
 o1 4 (.mv (.av (.bool false)))]
def tF:List SOp :=
 [o1 92 (.mv (tm 9)),
 o1 93 (.idxS (tm 92) (iv 0)),
 o1 8 (.mv (tm 93))]
def tE:List SOp :=
 [o1 94 (.mv (tm 7)),
 o1 95 (.bin .add (tm 94) (iv 2)),
 o1 7 (.mv (tm 95))]
def tD:List SOp :=
 [o1 2 (.mv (.av (.str []))),
 o1 3 (.mv (.av (.str []))),
 o1 4 (.mv (.av (.bool false)))]
def tC:List SOp :=
 [o1 96 (.mv (tm 5)),
 o1 97 (.mv (tm 8)),
 o1 98 (.bslice false 1 1 [(.int .u8 0)] [(0,(1,(tm 97)))]),
 o1 99 (.app 1 1 1 [(.int .u8 0)] (tm 96) (tm 98)),
 o1 5 (.mv (tm 99))]
def tB:List SOp :=
 [o1 100 (.mv (tm 7)),
 o1 101 (.bin .add (tm 100) (iv 1)),
 o1 7 (.mv (tm 101))]
def tz:List SOp :=
 [o1 102 (.mv (tm 5)),
 o1 103 (.b2s (tm 102)),
 o1 104 (.mv (tm 0)),
 o1 105 (.mv (tm 7)),
 o1 106 (.slS (tm 104) (some (tm 105)) none),
 o1 107 (.mv (tm 6)),
 o1 108 (.un .not (tm 107)),
 o1 2 (.mv (tm 103)),
 o1 3 (.mv (tm 106)),
 o1 4 (.mv (tm 108))]
def uU:aJ:=⟨109,(.seq (.sreg wg [])
 (.seq (.sreg wc [])
 (.seq (.sreg wb [])
 (.seq (.sreg wa [])
 (.seq (.block 0 (.loop (.seq (.seq (.sreg v8 [true,false,false,false,false,false,false,false])
 (.cond (tm 26) .skip
 (.exit 0)))
 (.block 1 (.seq (.sreg v7 [true,false,false,false])
 (.seq (.sreg v6 [true,false,false])
 (.seq (.block 2 (.seq (.sreg vZ [true,false,false])
 (.cond (tm 32) (.seq (.sreg vY [true,false,false,false,false,false])
 (.cond (tm 54) (.seq (.sreg vX [])
 .ret)
 .skip))
 (.seq (.sreg tM [true,false,false,false,false,false,false,false])
 (.cond (tm 55) (.seq (.sreg tL [true,false,false])
 (.sreg tK [true,false,false,false]))
 (.seq (.sreg tJ [true,false,false,false,false,false])
 (.cond (tm 74) (.seq (.sreg tI [true,true,false,false,false,false,false,false,false,false,false,false])
 (.seq (.seq (.sreg tH [true,false])
 (.cond (tm 91) (.seq (.sreg tG [])
 .ret)
 .skip))
 (.seq (.sreg tF [true,false,false])
 (.sreg tE [true,false,false]))))
 (.seq (.sreg tD [])
 .ret))))))))
 (.seq (.sreg tC [true,false,false,false,false])
 (.sreg tB [true,false,false])))))))))
 (.seq (.sdreg tz [.pure,(.read 0 0),.pure,.pure,(.read 0 0),.pure,.pure,.pure,.pure] [true,true,true,false,false,false,false,false,false,false])
 .ret)))))),[(.tmp 2),(.tmp 3),(.tmp 4)]⟩
attribute [push_cast] wg wc wb wa v8 v7 v6 vZ vY vX tM tL tK tJ tI tH tG tF tE tD tC tB tz
theorem AM:aN Tryz.prog (fun _ _=>1) 77=some uU.raw:=by kernel_rfl
def wZ:List SOp :=
 [o1 2 (.mv (.av (.sl [] 0 (some 0)))),
 o1 3 (.mv (iv 0))]
def wY:List SOp :=
 [o1 10 (.mv (tm 0)),
 o1 11 (.len true (tm 10)),
 o1 12 (.bin .gtr (tm 11) (iv 4096))]
def wX:List SOp :=
 [o1 2 (.mv (.av (.sl [] 0 (some 0)))),
 o1 3 (.mv (iv 5))]
def wW:List SOp :=
 [o1 13 (.mv (tm 0)),
 o1 14 (.bin .eql (tm 13) (.av (.str [])))]
def wV:List SOp :=
 [o1 2 (.mv (.av (.sl [] 0 (some 0)))),
 o1 3 (.mv (iv 0))]
def wU:List SOp :=
 [o1 4 (.mv (.av (.sl [] 0 (some 0))))]
def wT:List SOp :=
 [o1 5 (.mv (.av (.sl [] 0 (some 0))))]
def wS:List SOp :=
 [o1 15 (.mv (tm 4)),
 o1 16 (.len false (tm 15)),
 o1 17 (.bin .eql (tm 16) (iv 32)),
 o1 18 (.mv (tm 17)),
 .grp none 18 false
 [og 19 18 false (.mv (tm 5)),
 og 20 18 false (.len false (tm 19)),
 og 21 18 false (.bin .eql (tm 20) (iv 8))]
 22 (tm 21)]
def wR:List SOp :=
 [o1 2 (.mv (.av (.sl [] 0 (some 0)))),
 o1 3 (.mv (iv 9))]
def wQ:List SOp :=
 [o1 24 (.mv (tm 0)),
 o1 25 (.call 76 [(tm 24),(.av (.str [61]))]),
 o1 23 (.mv (tm 25)),
 o1 26 (.extract (tm 23) 0),
 o1 27 (.extract (tm 23) 1),
 o1 28 (.extract (tm 23) 2),
 o1 6 (.mv (tm 26)),
 o1 7 (.mv (tm 27)),
 o1 8 (.mv (tm 28))]
def uy:List SOp :=
 [o1 29 (.mv (tm 8)),
 o1 30 (.un .not (tm 29)),
 o1 31 (.mv (tm 30)),
 .grp none 31 false
 [og 32 31 false (.mv (tm 6)),
 og 33 31 false (.call 62 [(tm 32)]),
 og 34 31 false (.un .not (tm 33))]
 35 (tm 34)]
def ux:List SOp :=
 [o1 2 (.mv (.av (.sl [] 0 (some 0)))),
 o1 3 (.mv (iv 4))]
def uw:List SOp :=
 [o1 36 (.mv (tm 5)),
 o1 37 (.mv (tm 6)),
 o1 38 (.call 63 [(tm 36),(tm 37)])]
def uv:List SOp :=
 [o1 2 (.mv (.av (.sl [] 0 (some 0)))),
 o1 3 (.mv (iv 21))]
def uu:List SOp :=
 [o1 40 (.mv (tm 7)),
 o1 41 (.call 77 [(tm 40)]),
 o1 39 (.mv (tm 41)),
 o1 42 (.extract (tm 39) 0),
 o1 43 (.extract (tm 39) 1),
 o1 44 (.extract (tm 39) 2),
 o1 9 (.mv (tm 42)),
 o1 7 (.mv (tm 43)),
 o1 8 (.mv (tm 44))]
def ut:List SOp :=
 [o1 45 (.mv (tm 8)),
 o1 46 (.un .not (tm 45))]
def ur:List SOp :=
 [o1 2 (.mv (.av (.sl [] 0 (some 0)))),
 o1 3 (.mv (iv 4))]
def uq:List SOp :=
 [o1 47 (.mv (tm 5)),
 o1 48 (.mv (tm 6)),
 o1 49 (.mv (tm 9)),
 o1 50 (.build [(.str []),(.str [])] [(0,(1,(tm 48))),(1,(1,(tm 49)))]),
 o1 51 (.bslice false 2 1 [(.str []),(.str [])] [(0,(2,(tm 50)))]),
 o1 52 (.app 1 2 32 [(.str []),(.str [])] (tm 47) (tm 51)),
 o1 5 (.mv (tm 52))]
def uo:List SOp :=
 [o1 53 (.mv (tm 7)),
 o1 54 (.bin .eql (tm 53) (.av (.str [])))]
def um:List SOp :=
 [o1 55 (.mv (tm 4)),
 o1 56 (.mv (tm 5)),
 o1 57 (.bslice false 1 1 [(.sl [] 0 (some 0))] [(0,(1,(tm 56)))]),
 o1 58 (.app 1 1 24 [(.sl [] 0 (some 0))] (tm 55) (tm 57)),
 o1 2 (.mv (tm 58)),
 o1 3 (.mv (iv 0))]
def ul:List SOp :=
 [o1 59 (.mv (tm 7)),
 o1 60 (.idxS (tm 59) (iv 0)),
 o1 61 (.bin .eql (tm 60) (.av (.int .u8 44)))]
def uk:List SOp :=
 [o1 62 (.mv (tm 4)),
 o1 63 (.mv (tm 5)),
 o1 64 (.bslice false 1 1 [(.sl [] 0 (some 0))] [(0,(1,(tm 63)))]),
 o1 65 (.app 1 1 24 [(.sl [] 0 (some 0))] (tm 62) (tm 64)),
 o1 4 (.mv (tm 65)),
 o1 5 (.mv (.av (.sl [] 0 (some 0))))]
def uj:List SOp :=
 [o1 66 (.mv (tm 7)),
 o1 67 (.slS (tm 66) (some (iv 1)) none),
 o1 0 (.mv (tm 67))]
def uY:aJ:=⟨68,(.seq (.sreg wZ [])
 (.seq (.seq (.sreg wY [true,false,false])
 (.cond (tm 12) (.seq (.sreg wX [])
 .ret)
 .skip))
 (.seq (.seq (.sreg wW [true,false])
 (.cond (tm 14) (.seq (.sreg wV [])
 .ret)
 .skip))
 (.seq (.sreg wU [])
 (.seq (.sreg wT [])
 (.block 0 (.loop (.block 1 (.seq (.seq (.sreg wS [true,false,false,false,false])
 (.cond (tm 22) (.seq (.sreg wR [])
 .ret)
 .skip))
 (.seq (.sreg wQ [true,true,true,false,false,false,false,false,false])
 (.seq (.seq (.sreg uy [true,false,false,false])
 (.cond (tm 35) (.seq (.sreg ux [])
 .ret)
 .skip))
 (.seq (.seq (.sreg uw [true,false,false])
 (.cond (tm 38) (.seq (.sreg uv [])
 .ret)
 .skip))
 (.seq (.sreg uu [true,true,true,false,false,false,false,false,false])
 (.seq (.seq (.sreg ut [true,false])
 (.cond (tm 46) (.seq (.sreg ur [])
 .ret)
 .skip))
 (.seq (.sreg uq [true,false,false,false,false,false,false])
 (.seq (.seq (.sreg uo [true,false])
 (.cond (tm 54) (.seq (.sreg um [true,true,false,false,false,false])
 .ret)
 .skip))
 (.seq (.seq (.sreg ul [true,false,false])
 (.cond (tm 61) (.sreg uk [true,true,false,false,false,false])
 .skip))
 (.sreg uj [true,false,false])))))))))))))))))),[(.tmp 2),(.tmp 3)]⟩
attribute [push_cast] wZ wY wX wW wV wU wT wS wR wQ uy ux uw uv uu ut ur uq uo um ul uk uj
theorem AS:aN Tryz.prog (fun _ _=>1) 52=some uY.raw:=by kernel_rfl
def rg:List SOp :=
 [o1 2 (.mv (.av (.str [])))]
def rf:List SOp :=
 [o1 3 (.mv (.av (.sl [] 0 (some 0))))]
def re:List SOp :=
 [o1 7 (.mv (tm 0)),
 o1 8 (.s2b (tm 7)),
 o1 9 (.len false (tm 8)),
 o1 10 (.mv (iv 0))]
def rd:List SOp :=
 [o1 11 (.bin .lss (tm 10) (tm 9))]
def ra:List SOp :=
 [o1 12 (.mv (tm 10)),
 o1 13 (.iaddr 1 (tm 8) (tm 10)),
 o1 14 (.load false 1 (tm 13)),
 o1 4 (.mv (tm 12)),
 o1 5 (.mv (tm 14))]
def q9:List SOp :=
 [o1 15 (.mv (tm 4)),
 o1 16 (.bin .eql (tm 15) (iv 0)),
 o1 17 (.mv (tm 16)),
 .grp none 17 true
 [og 18 17 true (.mv (tm 5)),
 og 19 17 true (.bin .eql (tm 18) (.av (.int .u8 32))),
 og 20 17 true (.mv (tm 19)),
 .grp (some (17,true)) 20 false
 [og 21 20 false (.mv (tm 5)),
 og 22 20 false (.bin .eql (tm 21) (.av (.int .u8 35)))]
 23 (tm 22)]
 24 (tm 23),
 o1 25 (.mv (tm 24)),
 .grp none 25 false
 [og 26 25 false (.mv (tm 4)),
 og 27 25 false (.mv (tm 0)),
 og 28 25 false (.len true (tm 27)),
 og 29 25 false (.bin .sub (tm 28) (iv 1)),
 og 30 25 false (.bin .eql (tm 26) (tm 29)),
 og 31 25 false (.mv (tm 30)),
 .grp (some (25,false)) 31 true
 [og 32 31 true (.mv (tm 5)),
 og 33 31 true (.bin .eql (tm 32) (.av (.int .u8 32)))]
 34 (tm 33)]
 35 (tm 34),
 o1 6 (.mv (tm 35))]
def q0:List SOp :=
 [o1 37 (.mv (tm 5)),
 o1 38 (.bin .eql (tm 37) (.av (.int .u8 0))),
 o1 36 (.mv (tm 38))]
def qZ:List SOp :=
 [o1 39 (.mv (tm 3)),
 o1 40 (.app 1 1 1 [(.int .u8 0)] (tm 39) (.av (.str [92,48,48]))),
 o1 3 (.mv (tm 40))]
def qY:List SOp :=
 [o1 42 (.mv (tm 6)),
 o1 43 (.mv (tm 42)),
 .grp none 43 false
 [og 44 43 false (.mv (tm 5)),
 og 45 43 false (.call 93 [(.av (.str [34,43,44,59,60,62,92])),(tm 44)]),
 og 46 43 false (.bin .geq (tm 45) (iv 0))]
 47 (tm 46),
 o1 41 (.mv (tm 47))]
def qX:List SOp :=
 [o1 48 (.mv (tm 3)),
 o1 49 (.bslice false 1 1 [(.int .u8 0)] [(0,(1,(.av (.int .u8 92))))]),
 o1 50 (.app 1 1 1 [(.int .u8 0)] (tm 48) (tm 49)),
 o1 3 (.mv (tm 50))]
def nM:List SOp :=
 [o1 51 (.mv (tm 3)),
 o1 52 (.mv (tm 5)),
 o1 53 (.bslice false 1 1 [(.int .u8 0)] [(0,(1,(tm 52)))]),
 o1 54 (.app 1 1 1 [(.int .u8 0)] (tm 51) (tm 53)),
 o1 3 (.mv (tm 54))]
def nL:List SOp :=
 [o1 55 (.bin .add (tm 10) (iv 1)),
 o1 10 (.mv (tm 55))]
def nK:List SOp :=
 [o1 56 (.mv (tm 3)),
 o1 57 (.b2s (tm 56)),
 o1 2 (.mv (tm 57))]
def lD:aJ:=⟨58,(.seq (.sreg rg [])
 (.seq (.sreg rf [])
 (.seq (.seq (.sreg re [true,true,true,false])
 (.block 0 (.loop (.seq (.sreg rd [])
 (.seq (.cond (tm 11) .skip
 (.exit 0))
 (.seq (.block 1 (.seq (.sreg ra [true,true,false,false,false])
 (.seq (.sreg q9 [true,false,false,false,false,false,false])
 (.seq (.block 2 (.seq (.sreg q0 [true,false,false])
 (.cond (tm 36) (.seq (.sreg qZ [true,false,false])
 (.exit 1))
 (.seq (.sreg qY [true,false,false,false])
 (.cond (tm 41) (.sreg qX [true,false,false,false])
 .skip)))))
 (.sreg nM [true,false,false,false,false])))))
 (.sreg nL [true,false])))))))
 (.seq (.sreg nK [true,false,false])
 .ret)))),[(.tmp 2)]⟩
attribute [push_cast] rg rf re rd ra q9 q0 qZ qY qX nM nL nK
theorem zc:aN Tryz.prog (fun _ _=>1) 66=some lD.raw:=by kernel_rfl
def wF:List SOp :=
 [o1 2 (.mv (iv 0))]
def wE:List SOp :=
 [o1 7 (.mv (tm 0)),
 o1 8 (.len false (tm 7)),
 o1 9 (.mv (iv 0))]
def wD:List SOp :=
 [o1 10 (.bin .lss (tm 9) (tm 8))]
def wC:List SOp :=
 [o1 11 (.mv (tm 9)),
 o1 12 (.iaddr 1 (tm 7) (tm 9)),
 o1 13 (.load false 1 (tm 12)),
 o1 3 (.mv (tm 11)),
 o1 4 (.mv (tm 13))]
def wB:List SOp :=
 [o1 15 (.mv (tm 3)),
 o1 16 (.bin .eql (tm 15) (iv 32)),
 o1 14 (.mv (tm 16))]
def wA:List SOp :=
 [o1 2 (.mv (iv 9))]
def wz:List SOp :=
 [o1 18 (.mv (tm 4)),
 o1 19 (.len false (tm 18)),
 o1 20 (.bin .eql (tm 19) (iv 0)),
 o1 17 (.mv (tm 20))]
def wy:List SOp :=
 [o1 2 (.mv (iv 2))]
def wx:List SOp :=
 [o1 21 (.mv (tm 4)),
 o1 22 (.len false (tm 21)),
 o1 23 (.mv (iv 0))]
def ww:List SOp :=
 [o1 24 (.bin .lss (tm 23) (tm 22))]
def t6:List SOp :=
 [o1 25 (.mv (tm 23)),
 o1 26 (.iaddr 2 (tm 21) (tm 23)),
 o1 27 (.load true 2 (tm 26)),
 o1 6 (.alloc [(.str []),(.str [])]),
 o1 5 (.mv (tm 25)),
 o0 (.store 2 (tm 6) (tm 27))]
def tZ:List SOp :=
 [o1 29 (.mv (tm 5)),
 o1 30 (.bin .eql (tm 29) (iv 8)),
 o1 28 (.mv (tm 30))]
def tY:List SOp :=
 [o1 2 (.mv (iv 9))]
def tX:List SOp :=
 [o1 32 (.faddr 0 (tm 6)),
 o1 33 (.load false 1 (tm 32)),
 o1 34 (.call 62 [(tm 33)]),
 o1 35 (.un .not (tm 34)),
 o1 31 (.mv (tm 35))]
def tW:List SOp :=
 [o1 2 (.mv (iv 20))]
def tV:List SOp :=
 [o1 37 (.mv (tm 4)),
 o1 38 (.mv (tm 5)),
 o1 39 (.slV 2 (tm 37) none (some (tm 38)) none),
 o1 40 (.faddr 0 (tm 6)),
 o1 41 (.load false 1 (tm 40)),
 o1 42 (.call 63 [(tm 39),(tm 41)]),
 o1 36 (.mv (tm 42))]
def tU:List SOp :=
 [o1 2 (.mv (iv 21))]
def tT:List SOp :=
 [o1 43 (.bin .add (tm 23) (iv 1)),
 o1 23 (.mv (tm 43))]
def tS:List SOp :=
 [o1 44 (.bin .add (tm 9) (iv 1)),
 o1 9 (.mv (tm 44))]
def tR:List SOp :=
 [o1 2 (.mv (iv 0))]
def uW:aJ:=⟨45,(.seq (.sreg wF [])
 (.seq (.seq (.sreg wE [])
 (.block 0 (.loop (.seq (.sreg wD [])
 (.seq (.cond (tm 10) .skip
 (.exit 0))
 (.seq (.block 1 (.seq (.sreg wC [true,true,false,false,false])
 (.seq (.block 2 (.seq (.sreg wB [true,false,false])
 (.cond (tm 14) (.seq (.sreg wA [])
 .ret)
 (.seq (.sreg wz [true,false,false,false])
 (.cond (tm 17) (.seq (.sreg wy [])
 .ret)
 .skip)))))
 (.seq (.sreg wx [])
 (.block 3 (.loop (.seq (.sreg ww [])
 (.seq (.cond (tm 24) .skip
 (.exit 3))
 (.seq (.block 4 (.seq (.sreg t6 [true,true,false,false,false])
 (.block 5 (.seq (.sreg tZ [true,false,false])
 (.cond (tm 28) (.seq (.sreg tY [])
 .ret)
 (.seq (.sreg tX [true,false,false,false,false])
 (.cond (tm 31) (.seq (.sreg tW [])
 .ret)
 (.seq (.sdreg tV [.pure,.pure,(.read 0 0),.pure,(.read 0 0)] [true,false,false,false,false,false,false])
 (.cond (tm 36) (.seq (.sreg tU [])
 .ret)
 .skip)))))))))
 (.sreg tT [true,false]))))))))))
 (.sreg tS [true,false])))))))
 (.seq (.sreg tR [])
 .ret))),[(.tmp 2)]⟩
attribute [push_cast] wF wE wD wC wB wA wz wy wx ww t6 tZ tY tX tW tV tU tT tS tR
theorem AO:aN Tryz.prog (fun _ _=>1) 41=some uW.raw:=by kernel_rfl
def wP:List SOp :=
 [o1 2 (.mv (.av (.str []))),
 o1 3 (.mv (iv 0))]
def wO:List SOp :=
 [o1 11 (.mv (tm 0)),
 o1 12 (.call 41 [(tm 11)]),
 o1 4 (.mv (tm 12))]
def wN:List SOp :=
 [o1 13 (.mv (tm 4)),
 o1 14 (.bin .neq (tm 13) (iv 0))]
def wM:List SOp :=
 [o1 15 (.mv (tm 4)),
 o1 2 (.mv (.av (.str []))),
 o1 3 (.mv (tm 15))]
def wL:List SOp :=
 [o1 5 (.mv (iv 0))]
def wK:List SOp :=
 [o1 16 (.mv (tm 0)),
 o1 17 (.len false (tm 16)),
 o1 18 (.mv (iv 0))]
def wJ:List SOp :=
 [o1 19 (.bin .lss (tm 18) (tm 17))]
def wI:List SOp :=
 [o1 20 (.iaddr 1 (tm 16) (tm 18)),
 o1 21 (.load false 1 (tm 20)),
 o1 7 (.mv (tm 21))]
def wH:List SOp :=
 [o1 22 (.mv (tm 7)),
 o1 23 (.len false (tm 22)),
 o1 24 (.mv (iv 0))]
def wG:List SOp :=
 [o1 25 (.bin .lss (tm 24) (tm 23))]
def ui:List SOp :=
 [o1 26 (.iaddr 2 (tm 22) (tm 24)),
 o1 27 (.load true 2 (tm 26)),
 o1 9 (.alloc [(.str []),(.str [])]),
 o0 (.store 2 (tm 9) (tm 27))]
def uh:List SOp :=
 [o1 28 (.faddr 1 (tm 9)),
 o1 29 (.load false 1 (tm 28)),
 o1 30 (.len true (tm 29)),
 o1 31 (.bin .gtr (tm 30) (iv 4096))]
def ug:List SOp :=
 [o1 2 (.mv (.av (.str []))),
 o1 3 (.mv (iv 5))]
def uf:List SOp :=
 [o1 32 (.mv (tm 5)),
 o1 33 (.bin .add (tm 32) (iv 1)),
 o1 5 (.mv (tm 33))]
def ue:List SOp :=
 [o1 34 (.bin .add (tm 24) (iv 1)),
 o1 24 (.mv (tm 34))]
def ud:List SOp :=
 [o1 35 (.bin .add (tm 18) (iv 1)),
 o1 18 (.mv (tm 35))]
def uc:List SOp :=
 [o1 36 (.mv (tm 0)),
 o1 37 (.call 42 [(tm 36),(.av (.bool false))]),
 o1 10 (.mv (tm 37))]
def ua:List SOp :=
 [o1 38 (.mv (tm 10)),
 o1 39 (.len true (tm 38)),
 o1 40 (.bin .gtr (tm 39) (iv 4096))]
def t8:List SOp :=
 [o1 2 (.mv (.av (.str []))),
 o1 3 (.mv (iv 5))]
def t7:List SOp :=
 [o1 41 (.mv (tm 10)),
 o1 2 (.mv (tm 41)),
 o1 3 (.mv (iv 0))]
def uX:aJ:=⟨42,(.seq (.sreg wP [])
 (.seq (.seq (.sreg wO [true,false,false])
 (.seq (.sreg wN [true,false])
 (.cond (tm 14) (.seq (.sreg wM [true,true,false])
 .ret)
 .skip)))
 (.seq (.sreg wL [])
 (.seq (.seq (.sreg wK [])
 (.block 0 (.loop (.seq (.sreg wJ [])
 (.seq (.cond (tm 19) .skip
 (.exit 0))
 (.seq (.block 1 (.seq (.sreg wI [true,false,false])
 (.seq (.sreg wH [])
 (.block 2 (.loop (.seq (.sreg wG [])
 (.seq (.cond (tm 25) .skip
 (.exit 2))
 (.seq (.block 3 (.seq (.sreg ui [true,false,false])
 (.seq (.seq (.sreg uh [true,false,false,false])
 (.cond (tm 31) (.seq (.sreg ug [])
 .ret)
 .skip))
 (.sreg uf [true,false,false]))))
 (.sreg ue [true,false])))))))))
 (.sreg ud [true,false])))))))
 (.seq (.sreg uc [true,false,false])
 (.seq (.seq (.sreg ua [true,false,false])
 (.cond (tm 40) (.seq (.sreg t8 [])
 .ret)
 .skip))
 (.seq (.sreg t7 [true,true,false])
 .ret))))))),[(.tmp 2),(.tmp 3)]⟩
attribute [push_cast] wP wO wN wM wL wK wJ wI wH wG ui uh ug uf ue ud uc ua t8 t7
theorem AP:aN Tryz.prog (fun _ _=>1) 20=some uX.raw:=by kernel_rfl
def yw:List SOp :=
 [o1 2 (.mv (.av (.str []))),
 o1 3 (.mv (iv 0))]
def yv:List SOp :=
 [o1 7 (.mv (tm 0)),
 o1 8 (.call 20 [(tm 7)]),
 o1 6 (.mv (tm 8)),
 o1 9 (.extract (tm 6) 0),
 o1 10 (.extract (tm 6) 1),
 o1 4 (.mv (tm 9)),
 o1 5 (.mv (tm 10))]
def yu:List SOp :=
 [o1 11 (.mv (tm 5)),
 o1 12 (.bin .neq (tm 11) (iv 0))]
def yt:List SOp :=
 [o1 13 (.mv (tm 5)),
 o1 2 (.mv (.av (.str []))),
 o1 3 (.mv (tm 13))]
def yr:List SOp :=
 [o1 14 (.mv (tm 0)),
 o1 15 (.call 42 [(tm 14),(.av (.bool true))]),
 o1 2 (.mv (tm 15)),
 o1 3 (.mv (iv 0))]
def xI:aJ:=⟨16,(.seq (.sreg yw [])
 (.seq (.seq (.sreg yv [true,false,false,false,false,false,false])
 (.seq (.sreg yu [true,false])
 (.cond (tm 12) (.seq (.sreg yt [true,true,false])
 .ret)
 .skip)))
 (.seq (.sreg yr [true,true,false,false])
 .ret))),[(.tmp 2),(.tmp 3)]⟩
attribute [push_cast] yw yv yu yt yr
theorem BX:aN Tryz.prog (fun _ _=>1) 60=some xI.raw:=by kernel_rfl
def bw:List SOp :=
 [o1 4 (.mv (.av (.bool false)))]
def bv:List SOp :=
 [o1 5 (.mv (tm 0)),
 o1 6 (.mv (tm 1)),
 o1 7 (.call 112 [(tm 5),(tm 6)]),
 o1 8 (.bin .geq (tm 7) (iv 0)),
 o1 4 (.mv (tm 8))]
def aO:aJ:=⟨9,(.seq (.sreg bw [])
 (.seq (.sreg bv [true,false,false,false,false])
 .ret)),[(.tmp 4)]⟩
attribute [push_cast] bw bv
theorem dl:aN Tryz.prog (fun _ _=>1) 91=some aO.raw:=by kernel_rfl
def bP:List SOp :=
 [o1 4 (.mv (iv 0))]
def bO:List SOp :=
 [o1 6 (.mv (tm 0)),
 o1 7 (.len false (tm 6)),
 o1 8 (.mv (iv 0))]
def bN:List SOp :=
 [o1 9 (.bin .lss (tm 8) (tm 7))]
def bM:List SOp :=
 [o1 10 (.mv (tm 8)),
 o1 5 (.mv (tm 10))]
def bL:List SOp :=
 [o1 11 (.mv (tm 1)),
 o1 12 (.mv (tm 0)),
 o1 13 (.mv (tm 5)),
 o1 14 (.iaddr 2 (tm 12) (tm 13)),
 o1 15 (.load true 2 (tm 14)),
 o1 16 (.callv (tm 11) [(tm 15)])]
def bK:List SOp :=
 [o1 17 (.mv (tm 5)),
 o1 4 (.mv (tm 17))]
def bJ:List SOp :=
 [o1 18 (.bin .add (tm 8) (iv 1)),
 o1 8 (.mv (tm 18))]
def bI:List SOp :=
 [o1 4 (.mv (iv (-1)))]
def bd:aJ:=⟨19,(.seq (.sreg bP [])
 (.seq (.seq (.sreg bO [true,true,false])
 (.block 0 (.loop (.seq (.sreg bN [])
 (.seq (.cond (tm 9) .skip
 (.exit 0))
 (.seq (.block 1 (.seq (.sreg bM [true,false])
 (.seq (.sreg bL [true,false,false,false,false,false])
 (.cond (tm 16) (.seq (.sreg bK [true,false])
 .ret)
 .skip))))
 (.sreg bJ [true,false])))))))
 (.seq (.sreg bI [])
 .ret))),[(.tmp 4)]⟩
attribute [push_cast] bP bO bN bM bL bK bJ bI
theorem dv:aN Tryz.prog (fun _ _=>1) 112=some bd.raw:=by kernel_rfl
def lQ:List SOp :=
 [o1 4 (.mv (.av (.str []))),
 o1 5 (.mv (.av (.str []))),
 o1 6 (.mv (.av (.bool false)))]
def lP:List SOp :=
 [o1 7 (.mv (tm 0)),
 o1 8 (.mv (tm 1)),
 o1 9 (.call 100 [(tm 7),(tm 8)]),
 o1 10 (.extract (tm 9) 0),
 o1 11 (.extract (tm 9) 1),
 o1 12 (.extract (tm 9) 2),
 o1 4 (.mv (tm 10)),
 o1 5 (.mv (tm 11)),
 o1 6 (.mv (tm 12))]
def dF:aJ:=⟨13,(.seq (.sreg lQ [])
 (.seq (.sreg lP [true,true,true,false,false,false,false,false,false])
 .ret)),[(.tmp 4),(.tmp 5),(.tmp 6)]⟩
attribute [push_cast] lQ lP
theorem kK:aN Tryz.prog (fun _ _=>1) 76=some dF.raw:=by kernel_rfl
def da:List SOp :=
 [o1 4 (.mv (.av (.str []))),
 o1 5 (.mv (.av (.str []))),
 o1 6 (.mv (.av (.bool false)))]
def c9:List SOp :=
 [o1 8 (.mv (tm 0)),
 o1 9 (.mv (tm 1)),
 o1 10 (.call 127 [(tm 8),(tm 9)]),
 o1 7 (.mv (tm 10))]
def c8:List SOp :=
 [o1 11 (.mv (tm 7)),
 o1 12 (.bin .geq (tm 11) (iv 0))]
def c7:List SOp :=
 [o1 13 (.mv (tm 0)),
 o1 14 (.mv (tm 7)),
 o1 15 (.slS (tm 13) none (some (tm 14))),
 o1 16 (.mv (tm 0)),
 o1 17 (.mv (tm 7)),
 o1 18 (.mv (tm 1)),
 o1 19 (.len true (tm 18)),
 o1 20 (.bin .add (tm 17) (tm 19)),
 o1 21 (.slS (tm 16) (some (tm 20)) none),
 o1 4 (.mv (tm 15)),
 o1 5 (.mv (tm 21)),
 o1 6 (.mv (.av (.bool true)))]
def cZ:List SOp :=
 [o1 22 (.mv (tm 0)),
 o1 4 (.mv (tm 22)),
 o1 5 (.mv (.av (.str []))),
 o1 6 (.mv (.av (.bool false)))]
def aM:aJ:=⟨23,(.seq (.sreg da [])
 (.seq (.seq (.sreg c9 [true,false,false,false])
 (.seq (.sreg c8 [true,false])
 (.cond (tm 12) (.seq (.sdreg c7 [.pure,.pure,(.read 0 0),.pure,.pure,.pure,(.read 0 0),.pure,(.read 0 0),.pure] [true,true,true,false,false,false,false,false,false,false,false,false])
 .ret)
 .skip)))
 (.seq (.sreg cZ [true,true,true,false])
 .ret))),[(.tmp 4),(.tmp 5),(.tmp 6)]⟩
attribute [push_cast] da c9 c8 c7 cZ
theorem cX:aN Tryz.prog (fun _ _=>1) 100=some aM.raw:=by kernel_rfl
set_option maxHeartbeats 8000000
set_option maxRecDepth 100000
theorem CX {n:Int} (h0 : -2147483648≤n) (h1:n<2147483648):IntKind.i32.wrap n=n:=by
 simp only [IntKind.wrap,IntKind.bits,IntKind.signed]
 simp
 omega
theorem DB {s:List UInt8} {p:Nat} (h:p<s.length) (ha:(s.getD p 0).toNat<128):Ai s p=((s.getD p 0).toNat,1):=by
 have e:s.getD p 0=s[p]:=by simp [h]
 rw [e] at ha ⊢
 exact decode_ascii ⟨⟨s⟩⟩ p h ha
theorem Fa {s:List UInt8} {p:Nat} (h:p<s.length) (ha:128≤(s.getD p 0).toNat):128≤(Ai s p).1:=by
 have e:s.getD p 0=s[p]:=by simp [h]
 rw [e] at ha
 exact (decode_high ⟨⟨s⟩⟩ p h ha).1
def iG (x:Int):Bool:=(decide (97≤x) && decide (x≤122)) || (decide (65≤x) && decide (x≤90))
theorem eH {x:Int} {L:List Blk} {K:AV→List Blk→Prop} (h:K (.bool (iG x)) L):ab Tryz.prog 90 [.int .i32 x] L K:=by
 refine af As (by simp [ry]) ?_
 simp only [ry,an]
 refine wk ?_
 all_goals (first|refine aa rfl (Kto h ?_)|refine ap (Kto h ?_)|refine aa (by simp only [AV.refs,AV.refsL, *];rfl) (Kto h ?_)|refine ar (aa rfl (Kto h ?_))|(trace_state;fail))
 all_goals (first|(simp [iG, *];done)|(simp [iG, *];omega)|(simp [iG, *];intros;omega)|(simp_all [Hid,iG];done)|(simp_all [Hid,iG];omega))
def xo (x:Int):Bool:=iG x || (decide (48≤x) && decide (x≤57)) || decide (x=45)
def gk (s:List UInt8):Bool:=decide (1≤s.length) && decide (s.length≤32) && iG ((s.getD 0 0).toNat:Int) && s.all fun c=>xo (c.toNat:Int)
theorem A1 {x:Int} (h:128≤x):xo x=false:=by
 simp only [xo,iG,Bool.or_eq_false_iff,Bool.and_eq_false_iff,decide_eq_false_iff_not]
 omega
theorem CZ {s:List UInt8} {L:List Blk} {K:AV→List Blk→Prop} (h:K (.bool (gk s)) L):ab Tryz.prog 62 [.str s] L K:=by
 have no:gk s=false→K (.bool false) L:=fun e=>by rw [← e];exact h
 replace no:=hid no
 replace h:=hid h
 refine af BW (by simp [xH]) ?_
 simp only [xH,an]
 by_cases h0:s=[]
 · subst h0
   refine wk ?_
   exact ap (no.out rfl)
 have hlen:0<s.length:=List.length_pos_iff.2 h0
 by_cases h1:(32:Int)<(s.length:Int)
 · refine wk ?_
   exact ap (no.out (by simp [gk];omega))
 obtain ⟨c0,hc0⟩:∃ c,s.getD 0 0=c:=⟨_,rfl⟩
 have hr:=c0.toNat_lt
 have w0:IntKind.i32.wrap (c0.toNat:Int)=(c0.toNat:Int):=CX (by omega) (by omega)
 cases hl0:iG (c0.toNat:Int) with
 | false =>
   have kk1:=@hid _ @eH
   refine wk ?_
   refine ap (no.out ?_)
   simp only [gk,hc0,hl0,Bool.and_false,Bool.false_and]
 | true =>
   have kk1:=@hid _ @eH
   refine wk ?_
   refine ai (fun n T' L'=>∃ p,n=s.length - p∧p≤s.length∧Hid (∀ c∈s.take p,xo (c.toNat:Int)=true)∧T'=[(20,.ptr L.length 0)]∧L'=L++[.siter s p]) (CutS (b:=by simp)) ⟨0,rfl,Nat.zero_le _,hid (by simp),rfl,rfl⟩ ?_
   rintro _ _ _ ⟨p,rfl,hp,hall,rfl,rfl⟩
   by_cases hlt:p<s.length
   · obtain ⟨c,hc⟩:∃ c,s.getD p 0=c:=⟨_,rfl⟩
     have hmem:c∈s:=by rw [← hc];simp [hlt]
     have htk:s.take (p+1)=s.take p++[c]:=by rw [List.take_succ_eq_append_getElem hlt,← hc];simp [hlt]
     replace htk:=hid htk
     have bad:xo (c.toNat:Int)=false→K (.bool false) L:=fun e=>no.out (by
       have:(s.all fun c=>xo (c.toNat:Int))=false:=List.all_eq_false.2 ⟨c,hmem,by rw [e];simp⟩
       simp only [gk,this,Bool.and_false])
     replace bad:=hid bad
     by_cases ha:c.toNat<128
     · have hd:=DB hlt (by rw [hc];exact ha)
       rw [hc] at hd
       obtain ⟨x,hx⟩:∃ x:Nat,c.toNat=x:=⟨_,rfl⟩
       rw [hx] at hd bad
       have hx':=hid hx
       clear hx hc hmem ha hr w0
       cases hxl:iG (x:Int) with
       | true =>
         have kk1:=@hid _ @eH
         refine wk ?_
         refine ao _ _ _ (by omega) (CutS (b:=by simp)) ⟨p+1,rfl,hlt,hid fun d hd'=>?_,rfl,rfl⟩
         rw [htk.out] at hd'
         rcases List.mem_append.1 hd' with h|h
         · exact hall.out d h
         · rw [List.mem_singleton.1 h,hx'.out,xo,hxl];rfl
       | false =>
         repeat' first
           | refine cv ?_
           | (first|refine bp (by kernel_rfl) ?_|refine aQ (by kernel_rfl) ?_|refine aR ?_|refine dy ?_|refine cn (fun _=>?_)|refine aF ?_|refine bs ?_|refine eH ?_|refine bG (eH ⟨rfl,rfl⟩) (eH ⟨rfl,rfl⟩) ?_|refine az (eH ⟨rfl,rfl⟩) ?_)
             refine sm ?_
           | (first|refine bj (by kernel_rfl) ?_|refine bq ?_|refine br ?_|refine cw (aE ?_))
             refine sl ?_
           | exact co
           | first|apply cq|apply bm|apply cr|apply bn|apply cu|apply bo
           | refine aU ?_
           | first|refine aS rfl ?_|refine aT rfl ?_|refine ax rfl ?_ ?_|refine a8 rfl (fun _=>?_) (fun _=>?_)|refine a7 rfl (fun _=>?_) (fun _=>?_)
           | ((first|refine aw (fun _=>?_) (fun _=>?_)|refine aD (fun _=>?_) (fun _=>?_))<;>try refine sm ?_)
           | refine And.intro trivial ?_
           | refine And.intro (by omega) ?_
           | refine aX rfl (fun _=>?_) (fun _=>?_)
           | refine And.intro ?_ ?_
         · rename_i hb
           refine aa rfl (bad.out ?_)
           simp only [xo,hxl,Bool.false_or,Bool.or_eq_false_iff,Bool.and_eq_false_iff,decide_eq_false_iff_not]
           omega
         · rename_i hb
           refine ao _ _ _ (by omega) (CutS (b:=by simp)) ⟨p+1,rfl,hlt,hid fun d hd'=>?_,rfl,rfl⟩
           rw [htk.out] at hd'
           rcases List.mem_append.1 hd' with h|h
           · exact hall.out d h
           · rw [List.mem_singleton.1 h,hx'.out]
             simp only [xo,hxl,Bool.false_or,Bool.or_eq_true,Bool.and_eq_true,decide_eq_true_eq]
             omega
     · have hh:=Fa hlt (by rw [hc];omega)
       obtain ⟨⟨x,wd⟩,hd⟩:∃ q,Ai s p=q:=⟨_,rfl⟩
       rw [hd] at hh
       simp only at hh
       have bad':=hid (bad.out (A1 (show (128:Int)≤(c.toNat:Int) by omega)))
       have hxl:iG (x:Int)=false:=by
         have:=A1 (show (128:Int)≤(x:Int) by omega)
         simp only [xo,Bool.or_eq_false_iff] at this
         exact this.1.1
       have f1:¬ (x:Int)<48:=by omega
       have f2:(57:Int)<(x:Int):=by omega
       have f3:¬ (x:Int)=45:=by omega
       clear hc hmem hr w0
       have kk1:=@hid _ @eH
       refine wk ?_
       exact aa rfl bad'.out
   · have hke:p=s.length:=by omega
     subst hke
     have h':=h.out
     have e:gk s=true:=by
       have e1:(s.all fun c=>xo (c.toNat:Int))=true:=List.all_eq_true.2 fun c hcm=>hall.out c (by rw [List.take_length];exact hcm)
       simp only [gk,e1,hc0,hl0,Bool.and_true]
       simp;omega
     rw [e] at h'
     replace h':=hid h'
     clear e
     refine wk ?_
     exact aa rfl h'.out
set_option maxHeartbeats 8000000
set_option maxRecDepth 100000
abbrev Ava:=List UInt8×List UInt8
def kN (a:Ava):List AV:=[.str a.1,.str a.2]
def aW (r:List Ava):List AV:=r.flatMap kN
abbrev C7 (r:List Ava) (cap:Option Nat):AV:=.sl (aW r) r.length cap
def iM (r:List Ava) (typ:List UInt8):Bool:=r.any fun a=>decide (au a.1=au typ)
theorem IQ {a:Ava} {typ:List UInt8} {ip:Nat} (h1:(a.1.length:Int)≤100000) (h2:(typ.length:Int)≤100000) {L:List Blk} {K:AV→List Blk→Prop} (hL:L[ip]?=some (.cells [.str typ])) (h:K (.bool (decide (au a.1=au typ))) L) :
   ab Tryz.prog 92 [.agg (kN a),.ptr ip 0] L K:=by
 obtain ⟨t,v⟩:=a
 replace h:=hid h
 have hip:ip<L.length:=(List.getElem?_eq_some_iff.1 hL).1
 have g1:(L++[Blk.cells [.str t,.str v]])[ip]?=some (.cells [.str typ]):=by rw [List.getElem?_append_left hip];exact hL
 simp only [kN]
 refine af AN (by simp [uV]) ?_
 simp only [uV,an]
 have kk1:=@hid _ (fun L K=>rm h1 (L:=L) (K:=K))
 have kk2:=@hid _ (fun L K=>rm h2 (L:=L) (K:=K))
 refine wk ?_
 exact aa rfl h.out
theorem cy (r:List Ava):(aW r).length=r.length * 2:=by
 induction r with
 | nil=>rfl
 | cons a r ih=>simp only [aW,List.flatMap_cons,List.length_append,kN,List.length_cons,List.length_nil] at ih ⊢;omega
theorem dr:∀ {r:List Ava} {k:Nat},k<r.length→((aW r).drop (k * 2)).take 2=kN (r.getD k ([],[]))
 | a::r,0,_=>rfl
 | a::r,k+1,h=>by
   have ih:=@dr r k (by simpa using h)
   rw [show (k+1) * 2=k * 2+1+1 by omega]
   simpa [aW,kN] using ih
theorem Gf {r:List Ava} {typ:List UInt8} {cap:Option Nat} {ip:Nat} (hn:r.length≤100000) (h1:∀ a∈r,(a.1.length:Int)≤100000) (h2:(typ.length:Int)≤100000) {L:List Blk} {K:AV→List Blk→Prop} (hL:L[ip]?=some (.cells [.str typ]))
   (hno:iM r typ=false→K (.int .i64 (-1)) L) (hyes:∀ k:Nat,iM r typ=true→K (.int .i64 k) L):ab Tryz.prog 112 [C7 r cap,.func 92 [.ptr ip 0]] L K:=by
 replace hno:=hid hno
 replace hyes:=hid hyes
 replace h1:=hid h1
 refine af dv (by simp [bd]) ?_
 simp only [bd,an]
 refine wk ?_
 refine ai (fun n T' L'=>∃ (k:Nat),n=r.length - k∧k≤r.length∧Hid (iM (r.take k) typ=false)∧T'=[(8,.int .i64 (k:Int)),(7,.int .i64 r.length),(0,C7 r cap),(1,.func 92 [.ptr ip 0])]∧L=L') (CutS (b:=Nat.le_refl _)) ⟨0,rfl,Nat.zero_le _,hid rfl,rfl,rfl⟩ ?_
 rintro _ _ _ ⟨k,rfl,hk,hf,rfl,rfl⟩
 by_cases hlt:k<r.length
 · have g1:(k:Int)<(r.length:Int):=by omega
   have g2:IntKind.i64.wrap ((k:Int)+1)=(k:Int)+1:=ae (by omega) (by omega)
   have e1:=dr hlt
   have e2:k * 2+2≤(aW r).length:=by rw [cy];omega
   obtain ⟨a,ha⟩:∃ a,r.getD k ([],[])=a:=⟨_,rfl⟩
   have ham:a∈r:=by rw [← ha];simp [hlt]
   have htk:r.take (k+1)=r.take k++[a]:=by rw [List.take_succ_eq_append_getElem hlt,← ha];simp [hlt]
   rw [ha] at e1
   have hs:iM (r.take (k+1)) typ=decide (au a.1=au typ):=by
     have:=hf.out
     simp only [iM] at this ⊢
     rw [htk,List.any_append,this];simp
   have hall:decide (au a.1=au typ)=true→iM r typ=true:=fun e=>List.any_eq_true.2 ⟨a,ham,e⟩
   replace hall:=hid hall
   replace hs:=hid hs
   replace htk:=hid htk
   have ha1:=hid (h1.out a ham)
   clear ha ham
   refine wk ?_
   refine IQ ha1.out h2 hL ?_
   refine sk ?_
   cases hd:decide (au a.1=au typ) with
   | true =>
     have hy:=hid (hyes.out k (hall.out hd))
     replace hd:=hid hd
     refine wk ?_
     exact ap hy.out
   | false =>
     replace hd:=hid hd
     refine wk ?_
     exact ao _ _ _ (by omega) (CutS (b:=Nat.le_refl _)) ⟨k+1,rfl,hlt,hid (by rw [hs.out,hd.out]),rfl,rfl⟩
 · have hke:k=r.length:=by omega
   subst hke
   have g1:¬ (r.length:Int)<(r.length:Int):=by omega
   have hn':=hf.out
   rw [List.take_length] at hn'
   have hy:=hid (hno.out hn')
   clear hn'
   refine wk ?_
   exact ap hy.out
theorem CL {r:List Ava} {typ:List UInt8} {cap:Option Nat} {ip:Nat} (hn:r.length≤100000) (h1:∀ a∈r,(a.1.length:Int)≤100000) (h2:(typ.length:Int)≤100000) {L:List Blk} {K:AV→List Blk→Prop} (hL:L[ip]?=some (.cells [.str typ])) (h:K (.bool (iM r typ)) L) :
   ab Tryz.prog 91 [C7 r cap,.func 92 [.ptr ip 0]] L K:=by
 replace h:=hid h
 refine af dl (by simp [aO]) ?_
 simp only [aO,an]
 refine wk ?_
 refine Gf hn h1 h2 hL (fun e=>?_) (fun k e=>?_)
 · have h':=h.out
   rw [e] at h'
   replace h':=hid h'
   refine sk ?_
   refine wk ?_
   exact ap h'.out
 · have h':=h.out
   rw [e] at h'
   replace h':=hid h'
   have g:(0:Int)≤(k:Int):=by omega
   refine sk ?_
   refine wk ?_
   exact ap h'.out
theorem Ic {r:List Ava} {typ:List UInt8} {cap:Option Nat} (hn:r.length≤100000) (h1:∀ a∈r,(a.1.length:Int)≤100000) (h2:(typ.length:Int)≤100000) {L:List Blk} {K:AV→List Blk→Prop} (h:K (.bool (iM r typ)) L) :
   ab Tryz.prog 63 [C7 r cap,.str typ] L K:=by
 replace h:=hid h
 refine af CM (by simp [At]) ?_
 simp only [At,an]
 refine wk ?_
 refine CL hn h1 h2 (by simp) ?_
 refine sk ?_
 refine wk ?_
 exact aa rfl h.out
set_option maxHeartbeats 8000000
set_option maxRecDepth 100000
theorem dd {a:List UInt8} {c:UInt8} {L:List Blk} {K:AV→List Blk→Prop} (h:K (.int .i64 (Lib.indexByte a c)) L):ab Tryz.prog 93 [.str a,.int .u8 c.toNat] L K :=
 gj Tryz.func93 rfl (by kernel_rfl) (fun w0 S0 E w vs hR hv=>by
   simp only [VRL,VR] at hv
   obtain ⟨_,_,rfl,rfl,_,_,rfl,rfl,rfl⟩:=hv
   exact (Tryz.strings_IndexByte ⟨⟨a⟩⟩ c.toNat w).mono fun e w' ⟨he,hw⟩=>⟨_,he,by simp [VR],by subst hw;exact Grew.refl _⟩) h
theorem ft (a:List UInt8) (c:UInt8):(0≤Lib.indexByte a c)↔c∈a:=by
 induction a with
 | nil=>simp [Lib.indexByte]
 | cons b l ih =>
   have hge:=Lib.indexByte_ge l c
   unfold Lib.indexByte
   by_cases hb:b=c
   · simp [hb]
   · have e1:(b == c)=false:=by simpa using hb
     rw [e1]
     simp only [Bool.false_eq_true,if_false]
     have e2:c∈b::l↔c∈l:=by simp [Ne.symm hb]
     rw [e2,← ih]
     split
     · rename_i h;simp at h;omega
     · rename_i h;simp at h;omega
theorem bh (c d:UInt8):(c.toNat:Int)=(d.toNat:Int)↔c=d:=by
 constructor
 · intro h
   exact UInt8.toNat_inj.1 (by omega)
 · rintro rfl;rfl
def wrB (i n:Nat) (c:UInt8):List UInt8 :=
 if c=0 then [92,48,48] else if (i=0∧(c=32∨c=35))∨(i+1=n∧c=32)∨c∈[34,43,44,59,60,62,92] then [92,c] else [c]
def wrL (n:Nat):Nat→List UInt8→List UInt8
 | _,[]=>[]
 | i,c::s=>wrB i n c++wrL n (i+1) s
def ef (s:List UInt8):List UInt8:=wrL s.length 0 s
theorem G3 (i n:Nat) (c:UInt8):(wrB i n c).length≤3:=by
 unfold wrB;split
 · simp
 · split<;>simp
theorem de {s:List UInt8} (hs:s.length≤100000) {L:List Blk} {K:AV→List Blk→Prop} (h:K (.str (ef s)) L):ab Tryz.prog 66 [.str s] L K:=by
 replace h:=hid h
 have g0:IntKind.i64.wrap ((s.length:Int) - 1)=(s.length:Int) - 1:=ae (by omega) (by omega)
 refine af zc (by simp [lD]) ?_
 simp only [lD,an]
 refine wk ?_
 refine cK (l:=[]) (n:=0) 3 1 rfl (Nat.zero_mul 1).symm ?_
 refine ai (fun n T' L'=>∃ (i m:Nat) (b:List UInt8),n=s.length - i∧i≤s.length∧m≤3 * i∧Hid (m=b.length∧b++wrL s.length i (s.drop i)=ef s)∧T'=[(10,.int .i64 (i:Int)),(9,.int .i64 s.length),(8,.sl (u8s s) s.length none),(3,.gsl (u8s b) m L.length 1),(0,.str s)]∧L'=L++[.spare m 1]) (CutS (b:=by simp)) ⟨0,0,[],rfl,Nat.zero_le _,by omega,hid ⟨rfl,rfl⟩,rfl,rfl⟩ ?_
 rintro _ _ _ ⟨i,m,b,rfl,hi,hm,hb,rfl,rfl⟩
 by_cases hlt:i<s.length
 · have g1:(i:Int)<(s.length:Int):=by omega
   have g2:IntKind.i64.wrap ((i:Int)+1)=(i:Int)+1:=ae (by omega) (by omega)
   obtain ⟨c,hc⟩:∃ c,s.getD i 0=c:=⟨_,rfl⟩
   have g3:(u8s s).getD i .undef=.int .u8 c.toNat:=by rw [← hc];simp [u8s,hlt]
   have hdr:s.drop i=c::s.drop (i+1):=by rw [List.drop_eq_getElem_cons hlt,← hc];simp [hlt]
   have hb2:=hb.out.2
   rw [hdr] at hb2
   simp only [wrL] at hb2
   have g4:=gq
   have g5:(u8s s).length=s.length:=by simp [u8s]
   clear hc hdr
   replace hb2:=hid hb2
   repeat' first
     | refine cv ?_
     | (first|refine bp (by kernel_rfl) ?_|refine aQ (by kernel_rfl) ?_|refine aR ?_|refine dy ?_|refine cn (fun _=>?_)|refine aF ?_|refine bs ?_|refine dd ?_|refine bG (dd ⟨rfl,rfl⟩) (dd ⟨rfl,rfl⟩) ?_|refine az (dd ⟨rfl,rfl⟩) ?_)
       refine sm ?_
     | (first|refine bj (by kernel_rfl) ?_|refine bq ?_|refine br ?_|refine cw (aE ?_))
       refine sl ?_
     | exact co
     | first|apply cq|apply bm|apply cr|apply bn|apply cu|apply bo
     | refine aU ?_
     | first|refine aS rfl ?_|refine aT rfl ?_|refine ax rfl ?_ ?_|refine a8 rfl (fun _=>?_) (fun _=>?_)|refine a7 rfl (fun _=>?_) (fun _=>?_)
     | ((first|refine aw (fun _=>?_) (fun _=>?_)|refine aD (fun _=>?_) (fun _=>?_))<;>try refine sm ?_)
     | refine And.intro trivial ?_
     | refine And.intro (by omega) ?_
     | refine aX rfl (fun _=>?_) (fun _=>?_)
     | refine And.intro ?_ ?_
   · rfl
   · omega
   · rename_i h0
     have hc0:=(bh c 0).1 h0
     rw [show u8s b++AV.frzL (u8s [92,48,48])=u8s (b++[92,48,48]) by simp [u8s,AV.frzL,AV.frz]]
     refine ao _ _ _ (by omega) (CutL (b:=by simp)) ⟨i+1,m+3,b++[92,48,48],rfl,hlt,by omega,hid ⟨by simp [hb.out.1],?_⟩,rfl,rfl⟩
     rw [← hb2.out,wrB,if_pos hc0,List.append_assoc]
   · rename_i h0 h1
     have hc0:¬ c=0:=fun e=>h0 ((bh c 0).2 e)
     have hq:(i=0∧(c=32∨c=35))∨(i+1=s.length∧c=32)∨c∈[34,43,44,59,60,62,92]:=by
       rcases h1 with (⟨e1,e2⟩|⟨e1,e2⟩)|e
       · exact .inl ⟨by omega,e2.imp (bh c 32).1 (bh c 35).1⟩
       · exact .inr (.inl ⟨by omega,(bh c 32).1 e2⟩)
       · exact .inr (.inr ((ft _ _).1 e))
     rw [show u8s b++[AV.int IntKind.u8 92,AV.int IntKind.u8 (c.toNat:Int)]=u8s (b++[92,c]) by simp [u8s]]
     refine ao _ _ _ (by omega) (CutL (b:=by simp)) ⟨i+1,m+1+1,b++[92,c],rfl,hlt,by omega,hid ⟨by simp [hb.out.1],?_⟩,rfl,rfl⟩
     rw [← hb2.out,wrB,if_neg hc0,if_pos hq,List.append_assoc]
   · rename_i h0 h1
     have hc0:¬ c=0:=fun e=>h0 ((bh c 0).2 e)
     have hq:¬ ((i=0∧(c=32∨c=35))∨(i+1=s.length∧c=32)∨c∈[34,43,44,59,60,62,92]):=fun hq=>h1 (by
       rcases hq with ⟨e1,e2⟩|⟨e1,e2⟩|e
       · exact .inl (.inl ⟨by omega,e2.imp (bh c 32).2 (bh c 35).2⟩)
       · exact .inl (.inr ⟨by omega,(bh c 32).2 e2⟩)
       · exact .inr ((ft _ _).2 e))
     rw [show u8s b++[AV.int IntKind.u8 (c.toNat:Int)]=u8s (b++[c]) by simp [u8s]]
     refine ao _ _ _ (by omega) (CutL (b:=by simp)) ⟨i+1,m+1,b++[c],rfl,hlt,by omega,hid ⟨by simp [hb.out.1],?_⟩,rfl,rfl⟩
     rw [← hb2.out,wrB,if_neg hc0,if_neg hq,List.append_assoc]
 · have hke:i=s.length:=by omega
   subst hke
   have g1:¬ (s.length:Int)<(s.length:Int):=by omega
   have e1:=gq b
   have e2:=fv b
   have e:=hb.out.2
   rw [List.drop_length,wrL,List.append_nil] at e
   have h':=h.out
   rw [← e] at h'
   replace h':=hid h'
   clear e
   refine wk ?_
   exact aa rfl h'.out
set_option maxHeartbeats 8000000
set_option maxRecDepth 100000
abbrev vi:List UInt8:=[34,43,44,59,60,62,92,32,35,61]
def dG:List UInt8→Bool→List UInt8→Option (List UInt8×List UInt8×Bool)
 | b,bl,[]=>some (b,[], !bl)
 | b,bl,c::s=>if c=44∨c=43 then some (b,c::s, !bl)
   else if c≠92 then (if c=0∨c∈([34,59,60,62]:List UInt8)∨(b=[]∧(c=32∨c=35)) then none else dG (b++[c]) (decide (c=32)) s)
   else match s with
     | []=>none
     | d::s1=>if d∈vi then dG (b++[d]) false s1 else match s1 with
       | []=>none
       | e::s2=>match Dj d e with
         | none=>none
         | some x=>dG (b++[x]) false s2
def Eo (o:Option (List UInt8×List UInt8×Bool)):AV:=match o with
 | none=>.tup [.str [],.str [],.bool false]
 | some (v,r,f)=>.tup [.str v,.str r,.bool f]
theorem vd {b:List UInt8} {bl:Bool}:dG b bl []=some (b,[], !bl):=by rw [dG.eq_def]
theorem xm {b:List UInt8} {bl:Bool} {c:UInt8} {s:List UInt8} (h:c=44∨c=43):dG b bl (c::s)=some (b,c::s, !bl):=by rw [dG.eq_def];simp only [if_pos h]
theorem uC {b:List UInt8} {bl:Bool} {c:UInt8} {s:List UInt8} (h:¬ (c=44∨c=43)) (h2:c≠92):dG b bl (c::s)=if c=0∨c∈([34,59,60,62]:List UInt8)∨(b=[]∧(c=32∨c=35)) then none else dG (b++[c]) (decide (c=32)) s:=by
 rw [dG.eq_def];simp only [if_neg h,if_pos h2]
theorem A0 {b:List UInt8} {bl:Bool}:dG b bl [92]=none:=by rw [dG.eq_def];rfl
theorem xn {b:List UInt8} {bl:Bool} {d:UInt8} {s:List UInt8} (h:d∈vi):dG b bl (92::d::s)=dG (b++[d]) false s:=by
 rw [dG.eq_def]
 simp only [show ¬ ((92:UInt8)=44∨(92:UInt8)=43) by decide,if_false,ne_eq,not_true_eq_false,if_pos h]
theorem AZ {b:List UInt8} {bl:Bool} {d:UInt8} (h:¬ d∈vi):dG b bl [92,d]=none:=by
 rw [dG.eq_def]
 simp only [show ¬ ((92:UInt8)=44∨(92:UInt8)=43) by decide,if_false,ne_eq,not_true_eq_false,if_neg h]
theorem zr {b:List UInt8} {bl:Bool} {d e:UInt8} {s:List UInt8} (h:¬ d∈vi):dG b bl (92::d::e::s)=match Dj d e with|none=>none|some x=>dG (b++[x]) false s:=by
 rw [dG.eq_def]
 simp only [show ¬ ((92:UInt8)=44∨(92:UInt8)=43) by decide,if_false,ne_eq,not_true_eq_false,if_neg h]
theorem Ea {s:List UInt8} {i:Nat} (h:i<s.length):s.drop i=s.getD i 0::s.drop (i+1):=by
 rw [List.drop_eq_getElem_cons h];simp [h]
theorem G6 {s:List UInt8} (hs:s.length≤100000) {L:List Blk} {K:AV→List Blk→Prop} (h:K (Eo (dG [] false s)) L):ab Tryz.prog 77 [.str s] L K:=by
 replace h:=hid h
 refine af AM (by simp [uU]) ?_
 simp only [uU,an]
 refine wk ?_
 refine cK (l:=[]) (n:=0) 5 1 rfl (Nat.zero_mul 1).symm ?_
 refine ai (fun n T' L'=>∃ (i m:Nat) (b:List UInt8) (bl:Bool),n=s.length - i∧i≤s.length∧m≤i∧Hid (m=b.length∧dG b bl (s.drop i)=dG [] false s)∧T'=[(7,.int .i64 (i:Int)),(6,.bool bl),(5,.gsl (u8s b) m L.length 1),(0,.str s)]∧L'=L++[.spare m 1]) (CutS (b:=by simp)) ⟨0,0,[],false,rfl,Nat.zero_le _,by omega,hid ⟨rfl,rfl⟩,rfl,rfl⟩ ?_
 rintro _ _ _ ⟨i,m,b,bl,rfl,hi,hm,hb,rfl,rfl⟩
 have e1:=gq b
 have e2:=fv b
 by_cases hlt:i<s.length
 · have g1:(i:Int)<(s.length:Int):=by omega
   have g2:IntKind.i64.wrap ((i:Int)+1)=(i:Int)+1:=ae (by omega) (by omega)
   obtain ⟨c,hc⟩:∃ c,s.getD i 0=c:=⟨_,rfl⟩
   have hdr:=Ea hlt
   rw [hc] at hdr
   have hb2:=hb.out.2
   rw [hdr] at hb2
   have hds:(s.drop i).take (s.length - i)=s.drop i:=List.take_of_length_le (by simp)
   have hl1:(i:Int)≤(s.length:Int):=by omega
   by_cases hcc:c=44∨c=43
   · rw [xm hcc] at hb2
     have h':=h.out
     rw [← hb2] at h'
     simp only [Eo] at h'
     rw [← hdr] at h'
     replace h':=hid h'
     have k1:((c.toNat:Int)=44)∨((c.toNat:Int)=43):=hcc.imp (bh c 44).2 (bh c 43).2
     clear hb2 hcc hdr
     rcases k1 with k1|k1
     · refine wk ?_
       exact aa rfl h'.out
     · refine wk ?_
       exact aa rfl h'.out
   · have k1:¬ (c.toNat:Int)=44:=fun e=>hcc (.inl ((bh c 44).1 e))
     have k2:¬ (c.toNat:Int)=43:=fun e=>hcc (.inr ((bh c 43).1 e))
     by_cases h92:c=92
     · subst h92
       have g3:IntKind.i64.wrap ((i:Int)+2)=(i:Int)+2:=ae (by omega) (by omega)
       have g4:IntKind.i64.wrap ((i:Int)+3)=(i:Int)+3:=ae (by omega) (by omega)
       have g5:IntKind.i64.wrap ((i:Int)+1+1)=(i:Int)+1+1:=ae (by omega) (by omega)
       have g6:IntKind.i64.wrap ((i:Int)+2+1)=(i:Int)+2+1:=ae (by omega) (by omega)
       have t1:((i:Int)+1).toNat=i+1:=by omega
       have t3:((i:Int)+3).toNat=i+3:=by omega
       by_cases h1:i+1<s.length
       · have f1:(i:Int)+1<(s.length:Int):=by omega
         obtain ⟨d,hd⟩:∃ d,s.getD (i+1) 0=d:=⟨_,rfl⟩
         have hdr1:=Ea h1
         rw [hd] at hdr1
         rw [hdr1] at hb2
         by_cases hsp:d∈vi
         · rw [xn hsp] at hb2
           have f2:=(ft vi d).2 hsp
           clear hdr hdr1
           replace hb2:=hid hb2
           have kk1:=@hid _ @dd
           refine wk ?_
           rw [show u8s b++[AV.int IntKind.u8 (d.toNat:Int)]=u8s (b++[d]) by simp [u8s],show decide (((UInt8.toNat 92:Nat):Int)=32)=false from rfl]
           refine ao _ _ _ (by omega) (CutL (b:=by simp)) ⟨i+1+1,m+1,b++[d],false,rfl,h1,by omega,hid ⟨by simp [hb.out.1],hb2.out⟩,rfl,rfl⟩
         · have f2:¬ 0≤Lib.indexByte vi d:=fun e=>hsp ((ft vi d).1 e)
           by_cases h2:i+2<s.length
           · have f3:(i:Int)+2<(s.length:Int):=by omega
             have f4:(i:Int)+1≤(i:Int)+3:=by omega
             have f5:(i:Int)+3≤(s.length:Int):=by omega
             have f6:(0:Int)≤(i:Int)+1:=by omega
             obtain ⟨e,he⟩:∃ e,s.getD (i+2) 0=e:=⟨_,rfl⟩
             have hdr2:=Ea h2
             rw [he] at hdr2
             rw [hdr2,zr hsp] at hb2
             have hcut:(s.drop (i+1)).take (i+3 - (i+1))=[d,e]:=by
               rw [hdr1,hdr2,show i+3 - (i+1)=2 by omega];rfl
             clear hdr hdr1 hdr2
             replace hb2:=hid hb2
             have kk1:=@hid _ @dd
             refine wk ?_
             refine Fy ?_
             rcases hx:Dj d e with _|x
             · rw [show Cy d e=.tup [.str [],.bool false] by simp only [Cy,hx]]
               have h':=h.out
               rw [← hb2.out,hx] at h'
               simp only [Eo] at h'
               replace h':=hid h'
               clear hx
               refine sk ?_
               refine wk ?_
               exact aa rfl h'.out
             · rw [show Cy d e=.tup [.str [x],.bool true] by simp only [Cy,hx]]
               have hb3:=hb2.out
               rw [hx] at hb3
               simp only at hb3
               replace hb3:=hid hb3
               have q1:[x].getD 0 0=x:=rfl
               clear hx hb2
               refine sk ?_
               refine wk ?_
               rw [show u8s b++[AV.int IntKind.u8 (x.toNat:Int)]=u8s (b++[x]) by simp [u8s],show decide (((UInt8.toNat 92:Nat):Int)=32)=false from rfl]
               refine ao _ _ _ (by omega) (CutL (b:=by simp)) ⟨i+2+1,m+1,b++[x],false,rfl,h2,by omega,hid ⟨by simp [hb.out.1],hb3.out⟩,rfl,rfl⟩
           · have f3:¬ (i:Int)+2<(s.length:Int):=by omega
             have hnil:s.drop (i+1+1)=[]:=List.drop_eq_nil_of_le (by omega)
             rw [hnil,AZ hsp] at hb2
             have h':=h.out
             rw [← hb2] at h'
             replace h':=hid h'
             clear hdr hdr1 hb2
             have kk1:=@hid _ @dd
             refine wk ?_
             exact aa rfl h'.out
       · have f1:¬ (i:Int)+1<(s.length:Int):=by omega
         have f3:¬ (i:Int)+2<(s.length:Int):=by omega
         have hnil:s.drop (i+1)=[]:=List.drop_eq_nil_of_le (by omega)
         rw [hnil,A0] at hb2
         have h':=h.out
         rw [← hb2] at h'
         replace h':=hid h'
         clear hdr hb2
         have kk1:=@hid _ @dd
         refine wk ?_
         exact aa rfl h'.out
     · rw [uC hcc h92] at hb2
       have k3:¬ (c.toNat:Int)=92:=fun e=>h92 ((bh c 92).1 e)
       clear hdr
       replace hb2:=hid hb2
       repeat' first
         | refine cv ?_
         | (first|refine bp (by kernel_rfl) ?_|refine aQ (by kernel_rfl) ?_|refine aR ?_|refine dy ?_|refine cn (fun _=>?_)|refine aF ?_|refine bs ?_|refine dd ?_|refine bG (dd ⟨rfl,rfl⟩) (dd ⟨rfl,rfl⟩) ?_|refine az (dd ⟨rfl,rfl⟩) ?_)
           refine sm ?_
         | (first|refine bj (by kernel_rfl) ?_|refine bq ?_|refine br ?_|refine cw (aE ?_))
           refine sl ?_
         | exact co
         | first|apply cq|apply bm|apply cr|apply bn|apply cu|apply bo
         | refine aU ?_
         | first|refine aS rfl ?_|refine aT rfl ?_|refine ax rfl ?_ ?_|refine a8 rfl (fun _=>?_) (fun _=>?_)|refine a7 rfl (fun _=>?_) (fun _=>?_)
         | ((first|refine aw (fun _=>?_) (fun _=>?_)|refine aD (fun _=>?_) (fun _=>?_))<;>try refine sm ?_)
         | refine And.intro trivial ?_
         | refine And.intro (by omega) ?_
         | refine aX rfl (fun _=>?_) (fun _=>?_)
         | refine And.intro ?_ ?_
       · rename_i hx
         have hbad:c=0∨c∈([34,59,60,62]:List UInt8)∨(b=[]∧(c=32∨c=35)):=by
           rcases hx with (e|e)|⟨e,e'⟩
           · exact .inl ((bh c 0).1 e)
           · exact .inr (.inl ((ft _ _).1 e))
           · refine .inr (.inr ⟨List.length_eq_zero_iff.1 ?_,e'.imp (bh c 32).1 (bh c 35).1⟩)
             have:=hb.out.1;omega
         have h':=h.out
         rw [← hb2.out,if_pos hbad] at h'
         exact aa rfl h'
       · rename_i hx
         have hbad:¬ (c=0∨c∈([34,59,60,62]:List UInt8)∨(b=[]∧(c=32∨c=35))):=fun e=>hx (by
           rcases e with e|e|⟨e,e'⟩
           · exact .inl (.inl ((bh c 0).2 e))
           · exact .inl (.inr ((ft _ _).2 e))
           · refine .inr ⟨?_,e'.imp (bh c 32).2 (bh c 35).2⟩
             have:=hb.out.1;rw [e] at this;simp at this;omega)
         have hc32:decide ((c.toNat:Int)=32)=decide (c=32):=by
           have:=bh c 32
           simp only [decide_eq_decide];exact this
         rw [show u8s b++[AV.int IntKind.u8 (c.toNat:Int)]=u8s (b++[c]) by simp [u8s],hc32]
         refine ao _ _ _ (by omega) (CutL (b:=by simp)) ⟨i+1,m+1,b++[c],decide (c=32),rfl,hlt,by omega,hid ⟨by simp [hb.out.1],?_⟩,rfl,rfl⟩
         rw [← hb2.out,if_neg hbad]
 · have hke:i=s.length:=by omega
   subst hke
   have g1:¬ (s.length:Int)<(s.length:Int):=by omega
   have h':=h.out
   rw [← hb.out.2,List.drop_length,vd] at h'
   simp only [Eo] at h'
   replace h':=hid h'
   have hds:(s.drop s.length).take (s.length - s.length)=[]:=by simp
   refine wk ?_
   exact aa rfl h'.out
set_option maxHeartbeats 8000000
set_option maxRecDepth 100000
def uM:List UInt8→Option (List UInt8×List UInt8)
 | []=>none
 | c::s=>if c=61 then some ([],s) else match uM s with
   | none=>none
   | some (a,b)=>some (c::a,b)
theorem Ak:∀ s:List UInt8,(Lib.indexByte s 61=-1∧uM s=none)∨∃ n:Nat,n<s.length∧Lib.indexByte s 61=(n:Int)∧uM s=some (s.take n,s.drop (n+1))
 | []=>.inl ⟨rfl,rfl⟩
 | c::s=>by
   by_cases hc:c=61
   · subst hc
     exact .inr ⟨0,by simp,by simp [Lib.indexByte],by simp [uM]⟩
   · have e1:(c == 61)=false:=by simpa using hc
     unfold Lib.indexByte
     rw [e1]
     simp only [Bool.false_eq_true,if_false,uM,if_neg hc]
     rcases Ak s with ⟨h1,h2⟩|⟨n,h0,h1,h2⟩
     · exact .inl ⟨by rw [h1];rfl,by rw [h2]⟩
     · refine .inr ⟨n+1,by simp;omega,?_,by rw [h2];simp⟩
       rw [h1]
       have:((n:Int) == -1)=false:=by simp
       rw [this];simp
def Aj (s:List UInt8):AV:=match uM s with
 | some (a,b)=>.tup [.str a,.str b,.bool true]
 | none=>.tup [.str s,.str [],.bool false]
theorem Cx {a:List UInt8} {c:UInt8} {L:List Blk} {K:AV→List Blk→Prop} (h:K (.int .i64 (Lib.indexByte a c)) L):ab Tryz.prog 127 [.str a,.str [c]] L K :=
 gj Tryz.func127 rfl (by kernel_rfl) (fun w0 S0 E w vs hR hv=>by
   simp only [VRL,VR] at hv
   obtain ⟨_,_,rfl,rfl,_,_,rfl,rfl,rfl⟩:=hv
   exact (Tryz.stringslite_Index_one ⟨⟨a⟩⟩ c w).mono fun e w' ⟨he,hw⟩=>⟨_,he,by simp [VR],by subst hw;exact Grew.refl _⟩) h
theorem Gw {s:List UInt8} (hs:s.length≤100000) {L:List Blk} {K:AV→List Blk→Prop} (h:K (Aj s) L):ab Tryz.prog 100 [.str s,.str [61]] L K:=by
 have hl:[(61:UInt8)].length=1:=rfl
 rcases Ak s with ⟨h1,h2⟩|⟨n,h0,h1,h2⟩
 · simp only [Aj,h2] at h
   replace h:=hid h
   clear h2
   refine af cX (by simp [aM]) ?_
   simp only [aM,an]
   have kk1:=@hid _ @Cx
   refine wk ?_
   exact ap h.out
 · simp only [Aj,h2] at h
   replace h:=hid h
   have g1:(0:Int)≤(n:Int):=by omega
   have g2:IntKind.i64.wrap ((n:Int)+1)=(n:Int)+1:=ae (by omega) (by omega)
   have g3:(n:Int)≤(s.length:Int):=by omega
   have g4:(n:Int)+1≤(s.length:Int):=by omega
   have g5:(0:Int)≤(n:Int)+1:=by omega
   have g6:((n:Int)+1).toNat=n+1:=by omega
   have g7:(s.drop (n+1)).take (s.length - (n+1))=s.drop (n+1):=List.take_of_length_le (by simp)
   clear h2
   refine af cX (by simp [aM]) ?_
   simp only [aM,an]
   have kk1:=@hid _ @Cx
   refine wk ?_
   exact ap h.out
theorem Jp {s:List UInt8} (hs:s.length≤100000) {L:List Blk} {K:AV→List Blk→Prop} (h:K (Aj s) L):ab Tryz.prog 76 [.str s,.str [61]] L K:=by
 rcases hc:uM s with _|⟨a,b⟩
 all_goals
   simp only [Aj,hc] at h
   replace h:=hid h
 · refine af kK (by simp [dF]) ?_
   simp only [dF,an]
   refine wk ?_
   refine Gw hs ?_
   simp only [Aj,hc]
   refine sk ?_
   refine wk ?_
   exact ap h.out
 · refine af kK (by simp [dF]) ?_
   simp only [dF,an]
   refine wk ?_
   refine Gw hs ?_
   simp only [Aj,hc]
   refine sk ?_
   refine wk ?_
   exact ap h.out
abbrev Rdn:=List Ava
abbrev aA (r:Rdn):AV:=C7 r none
def yR:Nat→List Rdn→Rdn→List UInt8→List Rdn×Int
 | 0,_,_,_=>([],4)
 | f+1,out,now,s=>if out.length=32∨now.length=8 then ([],9) else match uM s with
   | none=>([],4)
   | some (typ,rest)=>if gk typ=false then ([],4) else if iM now typ=true then ([],21) else match dG [] false rest with
     | none=>([],4)
     | some (v,r2,ok)=>if ok=false then ([],4) else match r2 with
       | []=>(out++[now++[(typ,v)]],0)
       | c::s'=>if c=44 then yR f (out++[now++[(typ,v)]]) [] s' else yR f out (now++[(typ,v)]) s'
def ed (s:List UInt8):List Rdn×Int:=if 4096<s.length then ([],5) else if s=[] then ([],0) else yR (s.length+1) [] [] s
def IE (p:List Rdn×Int):AV:=.tup [.sl (p.1.map aA) p.1.length none,.int .i64 p.2]
theorem CJ:∀ {s a b:List UInt8},uM s=some (a,b)→b.length<s.length∧a.length≤s.length
 | [],a,b,h=>by simp [uM] at h
 | c::s,a,b,h=>by
   simp only [uM] at h
   split at h
   · simp only [Option.some.injEq,Prod.mk.injEq] at h
     obtain ⟨rfl,rfl⟩:=h
     simp
   · split at h
     · cases h
     · rename_i a' b' hc
       simp only [Option.some.injEq,Prod.mk.injEq] at h
       obtain ⟨rfl,rfl⟩:=h
       have:=CJ hc
       simp;omega
theorem Fx:∀ (n:Nat) {s b:List UInt8} {bl:Bool} {v r:List UInt8} {ok:Bool},s.length≤n→dG b bl s=some (v,r,ok)→r.length≤s.length:=by
 intro n
 induction n with
 | zero =>
   intro s b bl v r ok hn h
   obtain rfl:=List.length_eq_zero_iff.1 (Nat.le_zero.1 hn)
   rw [vd] at h;cases h;simp
 | succ n ih =>
   intro s b bl v r ok hn h
   cases s with
   | nil=>rw [vd] at h;cases h;simp
   | cons c s =>
     simp only [List.length_cons] at hn
     by_cases hc:c=44∨c=43
     · rw [xm hc] at h;cases h;simp
     by_cases h92:c=92
     · subst h92
       cases s with
       | nil=>rw [A0] at h;cases h
       | cons d s =>
         by_cases hd:d∈vi
         · rw [xn hd] at h
           have:=ih (by simp at hn;omega) h
           simp;omega
         · cases s with
           | nil=>rw [AZ hd] at h;cases h
           | cons e s =>
             rw [zr hd] at h
             split at h
             · cases h
             · have:=ih (by simp at hn;omega) h
               simp;omega
     · rw [uC hc h92] at h
       split at h
       · cases h
       · have:=ih (by omega) h
         simp;omega
section
variable {P:Program} {N:Nat} {own:Nat→Nat→Nat} {Q:Exit→Tm→List Blk→Prop} {T:Tm} {L:List Blk}
theorem H1 {lc:bx} (t sz B:Nat) {l:List AV} {n:Nat} {v:AV} (ht:ah T t=some v) (hB:B<L.length) (hv:(v=.sl [] 0 (some 0)∧l=[]∧n=0)∨∃ i,B<i∧v=.gsl l n i sz∧L[i]?=some (.spare n sz))
   (h:∀ i X,B<i→(L++X)[i]?=some (.spare n sz)→AW P N own lc Q ((t,.gsl l n i sz)::T) (L++X)):AW P N own lc Q T L:=by
 rcases hv with ⟨rfl,rfl,rfl⟩|⟨i,hBi,rfl,hi⟩
 · exact cK t sz ht (by simp) (h L.length [.spare 0 sz] hB (by simp))
 · have h':=h i [] hBi (by simpa using hi)
   rw [List.append_nil] at h'
   refine h'.weakT fun t' v' e=>?_
   simp only [ah] at e
   split at e
   · rename_i e1;subst e1;cases e;exact ht
   · exact e
end
set_option maxHeartbeats 8000000
set_option maxRecDepth 100000
def JD (B:Nat) (r:Rdn) (v:AV) (L:List Blk):Prop:=(v=.sl [] 0 (some 0)∧aW r=[]∧r.length=0)∨∃ i,B<i∧v=.gsl (aW r) r.length i 2∧L[i]?=some (.spare r.length 2)
theorem Fg (r:Rdn) (t v:List UInt8):aW (r++[(t,v)])=aW r++[.str t,.str v]:=by simp [aW,kN]
theorem kM (r:Rdn):AV.frzL (aW r)=aW r:=by
 induction r with
 | nil=>rfl
 | cons a r ih=>simpa [aW,kN,AV.frzL,AV.frz] using ih
theorem k8 {L0 X:List Blk} {e:Int} {K:AV→List Blk→Prop} (h:K (IE ([],e)) L0):Fin L0 (.tup [.sl [] 0 (some 0),.int .i64 e]) (L0++X) K:=ar (aa rfl h)
theorem bH (d:List Rdn):AV.frzL (d.map aA)=d.map aA:=by
 rw [AV.frzL_eq,List.map_map]
 refine List.map_congr_left fun r _=>?_
 simp only [Function.comp,AV.frz,kM]
theorem Ff (q:Nat→Bool) (r:Rdn):AV.refsL q (aW r)=true:=by
 induction r with
 | nil=>rfl
 | cons a r ih=>simpa [aW,kN,AV.refsL,AV.refs] using ih
theorem dg (q:Nat→Bool):∀ d:List Rdn,AV.refsL q (d.map aA)=true
 | []=>rfl
 | r::d=>by simp only [List.map_cons,AV.refsL,AV.refs,Ff,dg q d,Bool.and_self]
theorem vf {s:List UInt8} (h:gk s=true):s.length≤32:=by
 simp only [gk,Bool.and_eq_true,decide_eq_true_eq] at h
 exact h.1.1.2
theorem IP {r:Rdn} {typ:List UInt8} {i n:Nat} (hr:r.length=n) (hn:n≤8) (h1:∀ a∈r,a.1.length≤32) (h2:typ.length≤4096) {L:List Blk} {K:AV→List Blk→Prop} (h:K (.bool (iM r typ)) L) :
   ab Tryz.prog 63 [.gsl (aW r) n i 2,.str typ] L K:=by
 subst hr
 exact ez (by simpa only [AV.frzL,AV.frz,kM] using Ic (cap:=none) (by omega) (fun a ha=>by have:=h1 a ha;omega) (by omega) h)
theorem DW {s:List UInt8} {L:List Blk} {K:AV→List Blk→Prop} (h:K (IE (ed s)) L):ab Tryz.prog 52 [.str s] L K:=by
 refine af AS (by simp [uY]) ?_
 simp only [uY,an]
 by_cases h1:4096<s.length
 · have f1:(4096:Int)<(s.length:Int):=by omega
   rw [ed,if_pos h1] at h
   replace h:=hid h
   clear h1
   refine wk ?_
   exact ar (ap h.out)
 have f1:¬ (4096:Int)<(s.length:Int):=by omega
 rw [ed,if_neg h1] at h
 by_cases h2:s=[]
 · rw [if_pos h2] at h
   replace h:=hid h
   refine wk ?_
   exact ar (ap h.out)
 rw [if_neg h2] at h
 replace h:=hid h
 have hs:=hid (show s.length≤4096 by omega)
 clear h1
 obtain ⟨R,hR⟩:∃ R,yR (s.length+1) [] [] s=R:=⟨_,rfl⟩
 rw [hR] at h
 refine wk ?_
 refine cK (l:=[]) (n:=0) 4 1 rfl (Nat.zero_mul 1).symm ?_
 refine ai (fun n T' L'=>∃ (f m:Nat) (out:List Rdn) (now:Rdn) (u:List UInt8) (v:AV) (X:List Blk),f=n∧u.length≤4096∧m=out.length∧m≤32∧now.length≤8∧Hid (u.length<f∧yR f out now u=R∧(∀ a∈now,a.1.length≤32)∧JD L.length now v L')∧L'[L.length]?=some (.spare m 1)∧T'=[(5,v),(4,.gsl (out.map aA) m L.length 1),(0,.str u)]∧L'=L++X) (CutS (b:=by simp)) ⟨s.length+1,0,[],[],s,_,[.spare 0 1],rfl,hs.out,rfl,by omega,by simp,hid ⟨by omega,hR,by simp,.inl ⟨rfl,rfl,rfl⟩⟩,by simp,rfl,rfl⟩ ?_
 clear h2
 clear hs
 rintro _ _ _ ⟨f,m,out,now,u,v,X,rfl,hu,hm,hm32,hn8,hI,ho,rfl,rfl⟩
 obtain ⟨hf,hp,ht,hv⟩:=hI.out
 clear hI
 clear hR
 obtain ⟨f,rfl⟩:∃ g,f=g+1:=⟨f - 1,by omega⟩
 have hB:L.length<(L++X).length:=(List.getElem?_eq_some_iff.1 ho).1
 refine H1 5 2 L.length rfl hB hv fun i Y hBi hi=>?_
 rw [List.append_assoc] at hi ⊢
 have ho2:(L++(X++Y))[L.length]?=some (.spare m 1):=by rw [← List.append_assoc,List.getElem?_append_left hB];exact ho
 generalize X++Y=Z at hi ho2 ⊢
 clear ho hB hv
 have s5:∀ A,(L++Z).set i A=L++Z.set (i - L.length) A:=fun A=>List.set_append_right _ _ (by omega)
 have s4:∀ (W:List Blk) A,(L++W).set L.length A=L++W.set 0 A:=fun W A=>by rw [List.set_append_right _ _ (Nat.le_refl _),Nat.sub_self]
 have hz:i - L.length≠0:=by omega
 have s54:∀ A,(L++Z.set (i - L.length) A)[L.length]?=some (.spare m 1):=fun A=>by rw [← s5,List.getElem?_set_ne (by omega)];exact ho2
 have s55:∀ A,(L++Z.set (i - L.length) A)[i]?=some A:=fun A=>by rw [← s5,List.getElem?_set,if_pos rfl,if_pos (List.getElem?_eq_some_iff.1 hi).1]
 have hul:=hu
 obtain ⟨c,hc⟩:∃ c:Nat,now.length=c:=⟨_,rfl⟩
 rw [yR] at hp
 rw [hc] at hp hi hn8 ⊢
 by_cases hlim:out.length=32∨c=8
 · rw [if_pos hlim] at hp
   have h':=h.out
   rw [← hp] at h'
   replace h':=hid h'
   have k:(m:Int)=32∨(m:Int)≠32∧(c:Int)=8:=by omega
   clear hp hlim
   clear hm
   rcases k with k|⟨k,k'⟩
   · refine wk ?_
     exact k8 h'.out
   · refine wk ?_
     exact k8 h'.out
 rw [if_neg hlim] at hp
 have k1:¬ (m:Int)=32:=by omega
 have k2:¬ (c:Int)=8:=by omega
 replace hm:=hid hm
 clear hlim
 replace hp:=hid hp
 replace ht:=hid ht
 refine wk ?_
 refine Jp (by omega) ?_
 rcases hcut:uM u with _|⟨typ,rest⟩
 · rw [show Aj u=.tup [.str u,.str [],.bool false] by simp only [Aj,hcut]]
   have h':=h.out
   rw [← hp.out,hcut] at h'
   simp only at h'
   replace h':=hid h'
   refine sk ?_
   refine wk ?_
   exact k8 h'.out
 rw [show Aj u=.tup [.str typ,.str rest,.bool true] by simp only [Aj,hcut]]
 have hp2:=hp.out
 rw [hcut] at hp2
 simp only at hp2
 have hlen:=CJ hcut
 replace hp2:=hid hp2
 clear hcut hp
 refine sk ?_
 cases hty:gk typ with
 | false =>
   have h':=h.out
   rw [← hp2.out,if_pos hty] at h'
   replace h':=hid h'
   have kk1:=@hid _ @CZ
   refine wk ?_
   exact k8 h'.out
 | true =>
   have hp3:=hp2.out
   rw [if_neg (by rw [hty];simp)] at hp3
   replace hp3:=hid hp3
   clear hp2
   have kk1:=@hid _ @CZ
   refine wk ?_
   refine IP hc hn8 ht.out (by omega) ?_
   cases hha:iM now typ with
   | true =>
     have h':=h.out
     rw [← hp3.out,if_pos hha] at h'
     replace h':=hid h'
     refine sk ?_
     refine wk ?_
     exact k8 h'.out
   | false =>
     have hp4:=hp3.out
     rw [if_neg (by rw [hha];simp)] at hp4
     replace hp4:=hid hp4
     clear hp3
     refine sk ?_
     refine wk ?_
     refine G6 (by omega) ?_
     rcases hvl:dG [] false rest with _|⟨w,r2,okk⟩
     · have h':=h.out
       rw [← hp4.out,hvl] at h'
       simp only at h'
       replace h':=hid h'
       simp only [Eo]
       refine sk ?_
       refine wk ?_
       exact k8 h'.out
     · have hp5:=hp4.out
       rw [hvl] at hp5
       simp only at hp5
       have hl2:=Fx _ (Nat.le_refl _) hvl
       replace hp5:=hid hp5
       clear hp4 hvl
       simp only [Eo]
       refine sk ?_
       cases okk with
       | false =>
         have h':=h.out
         rw [← hp5.out,if_pos rfl] at h'
         replace h':=hid h'
         refine wk ?_
         exact k8 h'.out
       | true =>
         have hp6:=hp5.out
         rw [if_neg (by simp)] at hp6
         replace hp6:=hid hp6
         clear hp5
         have q1:(c+1) * 32≤140737488355328:=by omega
         have q2:c+1≤140737488355328:=by omega
         have q3:(m+1) * 24≤140737488355328:=by omega
         have q4:m+1≤140737488355328:=by omega
         have e1:aW now++[AV.str typ,AV.str w]=aW (now++[(typ,w)]):=(Fg _ _ _).symm
         have e2:out.map aA++[AV.sl (AV.frzL (aW now++[AV.str typ,AV.str w])) (c+1) none]=(out++[now++[(typ,w)]]).map aA:=by
           rw [e1,kM,List.map_append]
           simp [hc]
         have e3:(out++[now++[(typ,w)]]).length=m+1:=by simp [hm.out]
         have e4:(now++[(typ,w)]).length=c+1:=by simp [hc]
         have e5:∀ a∈now++[(typ,w)],a.1.length≤32:=fun a ha=>by
           rcases List.mem_append.1 ha with h|h
           · exact ht.out a h
           · rw [List.mem_singleton.1 h];exact vf hty
         replace e1:=hid e1
         replace e2:=hid e2
         replace e3:=hid e3
         replace e4:=hid e4
         replace e5:=hid e5
         cases r2 with
         | nil =>
           have h':=h.out
           rw [← hp6.out] at h'
           simp only at h'
           replace h':=hid h'
           refine wk ?_
           rw [e2.out]
           refine ar (aa ?_ ?_)
           · simp only [AV.frz,AV.frzL,bH,AV.refs,AV.refsL,dg,Bool.and_self]
           · simp only [AV.frz,AV.frzL,bH]
             have:=h'.out
             simp only [IE,e3.out] at this
             exact this
         | cons x s' =>
           simp only at hp6
           have q5:¬ (x::s'=[]):=by simp
           have q7:((s'.length:Int)+1).toNat - 1=s'.length:=by omega
           have q8:s'.take (((s'.length:Int)+1).toNat - 1)=s':=by rw [q7,List.take_length]
           simp only [List.length_cons] at hl2
           clear q7
           replace q8:=hid q8
           by_cases hx:x=44
           · subst hx
             refine wk ?_
             rw [q8.out,e2.out]
             refine ao _ _ _ ?_ (CutS (b:=?_)) ⟨f,m+1,out++[now++[(typ,w)]],[],s',.sl [] 0 (some 0),_,rfl,by omega,e3.out.symm,by omega,by simp,hid ⟨by omega,?_,by simp,.inl ⟨rfl,rfl,rfl⟩⟩,?_,rfl,rfl⟩
             · omega
             · have:=(List.getElem?_eq_some_iff.1 ho2).1
               simp at this ⊢;omega
             · rw [← hp6.out,if_pos rfl]
             · have:=(List.getElem?_eq_some_iff.1 ho2).1
               rw [← s4,List.getElem?_set,if_pos rfl,if_pos (by simp at this ⊢;omega)]
           · have q6:¬ (x.toNat:Int)=44:=fun e=>hx ((bh x 44).1 e)
             refine wk ?_
             rw [q8.out,e1.out]
             refine ao _ _ _ ?_ (CutS (b:=?_)) ⟨f,m,out,now++[(typ,w)],s',.gsl (aW (now++[(typ,w)])) (c+1) i 2,_,rfl,by omega,hm.out,hm32,by rw [e4.out];omega,hid ⟨by omega,?_,e5.out,.inr ⟨i,hBi,by rw [e4.out],by rw [e4.out];exact s55 _⟩⟩,s54 _,rfl,rfl⟩
             · omega
             · have:=(List.getElem?_eq_some_iff.1 ho2).1
               simp at this ⊢;omega
             · rw [← hp6.out,if_neg hx]
set_option maxHeartbeats 8000000
set_option maxRecDepth 100000
def dk:Rdn→Rdn→Int
 | _,[]=>0
 | done,a::t=>if done.length=8 then 9 else if gk a.1=false then 20 else if iM done a.1=true then 21 else dk (done++[a]) t
def gn:Nat→List Rdn→Int
 | _,[]=>0
 | i,r::t=>if i=32 then 9 else if r=[] then 2 else if dk [] r≠0 then dk [] r else gn (i+1) t
theorem iL {d:List Rdn} {k:Nat} (h:k<d.length):(d.map aA).getD k .undef=aA (d.getD k []):=by simp [h]
theorem Bq {r:Rdn} {k:Nat}:(aW r).take (k * 2)=aW (r.take k):=by
 induction r generalizing k with
 | nil=>simp [aW]
 | cons a r ih =>
   cases k with
   | zero=>simp [aW]
   | succ k =>
     have:=@ih k
     simp only [aW] at this
     rw [show (k+1) * 2=k * 2+1+1 by omega]
     simp [aW,kN,this]
theorem IN {r:Rdn} {typ:List UInt8} {n:Nat} {cap:Option Nat} (hr:r.length=n) (hn:n≤8) (h1:∀ a∈r,a.1.length≤32) (h2:typ.length≤32) {L:List Blk} {K:AV→List Blk→Prop} (h:K (.bool (iM r typ)) L) :
   ab Tryz.prog 63 [.sl (aW r) n cap,.str typ] L K:=by
 subst hr
 exact Ic (by omega) (fun a ha=>by have:=h1 a ha;omega) (by omega) h
theorem HM {d:List Rdn} {cap:Option Nat} (hn:d.length≤1000000) (hr:∀ r∈d,r.length≤1000000) {L:List Blk} {K:AV→List Blk→Prop} (h:K (.int .i64 (gn 0 d)) L):ab Tryz.prog 41 [.sl (d.map aA) d.length cap] L K:=by
 replace h:=hid h
 have hat:=hid (fun k=>@iL d k)
 replace hr:=hid hr
 refine af AO (by simp [uW]) ?_
 simp only [uW,an]
 refine wk ?_
 refine ai (fun n T' L'=>∃ (i:Nat) (X:List Blk),n=d.length - i∧i≤d.length∧i≤32∧Hid (gn i (d.drop i)=gn 0 d)∧T'=[(9,.int .i64 (i:Int)),(8,.int .i64 d.length),(7,.sl (d.map aA) d.length cap)]∧L'=L++X) (CutS (b:=by simp)) ⟨0,[],rfl,Nat.zero_le _,by omega,hid rfl,rfl,by simp⟩ ?_
 rintro _ _ _ ⟨i,X,rfl,hi,hi32,he,rfl,rfl⟩
 by_cases hlt:i<d.length
 · have g1:(i:Int)<(d.length:Int):=by omega
   have g2:IntKind.i64.wrap ((i:Int)+1)=(i:Int)+1:=ae (by omega) (by omega)
   have e2:=hat.out i hlt
   have hrl:=hr.out (d.getD i []) (by rw [List.getD_eq_getElem?_getD,List.getElem?_eq_getElem hlt];exact List.getElem_mem _)
   obtain ⟨r,hri⟩:∃ r,d.getD i []=r:=⟨_,rfl⟩
   have hdr:d.drop i=r::d.drop (i+1):=by rw [List.drop_eq_getElem_cons hlt,← hri];simp [hlt]
   rw [hri] at e2 hrl
   have he2:=he.out
   rw [hdr,gn] at he2
   clear hdr hri
   by_cases h32:i=32
   · rw [if_pos h32] at he2
     have h':=h.out
     rw [← he2] at h'
     replace h':=hid h'
     have k1:(i:Int)=32:=by omega
     have g1':(32:Int)<(d.length:Int):=by omega
     clear h32 he2
     refine wk ?_
     exact aa rfl h'.out
   rw [if_neg h32] at he2
   have k1:¬ (i:Int)=32:=by omega
   by_cases hr0:r=[]
   · rw [if_pos hr0] at he2
     subst hr0
     have h':=h.out
     rw [← he2] at h'
     replace h':=hid h'
     clear h32 he2
     refine wk ?_
     exact aa rfl h'.out
   rw [if_neg hr0] at he2
   have k2:¬ (r.length:Int)=0:=by have:=List.length_pos_iff.2 hr0;omega
   have herr:∀ e:Int,dk [] r=e→e≠0→K (.int .i64 e) L:=fun e a1 a2=>by
     rw [if_pos (by rw [a1];exact a2),a1] at he2
     rw [he2];exact h.out
   replace herr:=hid herr
   replace he2:=hid he2
   clear h32
   refine wk ?_
   refine ai (fun n T' L'=>∃ (k:Nat) (Y:List Blk),n=r.length - k∧k≤r.length∧k≤8∧Hid (dk (r.take k) (r.drop k)=dk [] r∧∀ a∈r.take k,a.1.length≤32)∧T'=[(23,.int .i64 (k:Int)),(22,.int .i64 r.length),(21,aA r),(4,aA r),(9,.int .i64 (i:Int)),(8,.int .i64 d.length),(7,.sl (d.map aA) d.length cap)]∧L'=L++(X++Y)) (CutS (b:=by simp)) ⟨0,[],rfl,Nat.zero_le _,by omega,hid ⟨rfl,by simp⟩,rfl,by simp⟩ ?_
   rintro _ _ _ ⟨k,Y,rfl,hk,hk8,hrow,rfl,rfl⟩
   by_cases hkl:k<r.length
   · have g3:(k:Int)<(r.length:Int):=by omega
     have g4:IntKind.i64.wrap ((k:Int)+1)=(k:Int)+1:=ae (by omega) (by omega)
     have e3:=dr hkl
     have e4:k * 2+2≤(aW r).length:=by rw [cy];omega
     obtain ⟨⟨ty,va⟩,ha⟩:∃ a,r.getD k ([],[])=a:=⟨_,rfl⟩
     have hdk:r.drop k=(ty,va)::r.drop (k+1):=by rw [List.drop_eq_getElem_cons hkl,← ha];simp [hkl]
     have htk:r.take (k+1)=r.take k++[(ty,va)]:=by rw [List.take_succ_eq_append_getElem hkl,← ha];simp [hkl]
     rw [ha] at e3
     simp only [kN] at e3
     obtain ⟨hr1,hr2⟩:=hrow.out
     rw [hdk,dk] at hr1
     have hlk:(r.take k).length=k:=by simp;omega
     rw [hlk] at hr1
     clear hdk ha hrow
     have e5:(aW r).take (k * 2)=aW (r.take k):=Bq
     have g5:(k:Int)≤(r.length:Int):=by omega
     replace hr1:=hid hr1
     replace hr2:=hid hr2
     replace htk:=hid htk
     have e6:=hid hlk
     clear hlk
     repeat' first
       | refine cv ?_
       | (first|refine bp (by kernel_rfl) ?_|refine aQ (by kernel_rfl) ?_|refine aR ?_|refine dy ?_|refine cn (fun _=>?_)|refine aF ?_|refine bs ?_)
         refine sm ?_
       | (first|refine bj (by kernel_rfl) ?_|refine bq ?_|refine br ?_|refine cw (aE ?_))
         refine sl ?_
       | exact co
       | first|apply cq|apply bm|apply cr|apply bn|apply cu|apply bo
       | refine aU ?_
       | first|refine aS rfl ?_|refine aT rfl ?_|refine ax rfl ?_ ?_|refine a8 rfl (fun _=>?_) (fun _=>?_)|refine a7 rfl (fun _=>?_) (fun _=>?_)
       | ((first|refine aw (fun _=>?_) (fun _=>?_)|refine aD (fun _=>?_) (fun _=>?_))<;>try refine sm ?_)
       | refine And.intro trivial ?_
       | refine And.intro (by omega) ?_
       | refine aX rfl (fun _=>?_) (fun _=>?_)
       | refine And.intro ?_ ?_
     · rename_i h8
       have h':=herr.out 9 (by rw [← hr1.out,if_pos (by omega)]) (by decide)
       exact aa rfl h'
     · rename_i h8
       have hr3:=hr1.out
       rw [if_neg (by omega)] at hr3
       refine CZ ?_
       cases hty:gk ty with
       | false =>
         have h':=hid (herr.out 20 (by rw [← hr3,if_pos hty]) (by decide))
         clear hr3
         refine sk ?_
         refine wk ?_
         exact aa rfl h'.out
       | true =>
         rw [if_neg (by rw [hty];simp)] at hr3
         replace hr3:=hid hr3
         have htl:=vf hty
         refine sk ?_
         repeat' first
           | refine cv ?_
           | (first|refine bp (by kernel_rfl) ?_|refine aQ (by kernel_rfl) ?_|refine aR ?_|refine dy ?_|refine cn (fun _=>?_)|refine aF ?_|refine bs ?_)
             refine sm ?_
           | (first|refine bj (by kernel_rfl) ?_|refine bq ?_|refine br ?_|refine cw (aE ?_))
             refine sl ?_
           | exact co
           | first|apply cq|apply bm|apply cr|apply bn|apply cu|apply bo
           | refine aU ?_
           | first|refine aS rfl ?_|refine aT rfl ?_|refine ax rfl ?_ ?_|refine a8 rfl (fun _=>?_) (fun _=>?_)|refine a7 rfl (fun _=>?_) (fun _=>?_)
           | ((first|refine aw (fun _=>?_) (fun _=>?_)|refine aD (fun _=>?_) (fun _=>?_))<;>try refine sm ?_)
           | refine And.intro trivial ?_
           | refine And.intro (by omega) ?_
           | refine aX rfl (fun _=>?_) (fun _=>?_)
           | refine And.intro ?_ ?_
         refine az (IN e6.out (by omega) hr2.out htl ⟨rfl,rfl⟩) ?_
         cases hha:iM (r.take k) ty with
         | true =>
           have h':=hid (herr.out 21 (by rw [← hr3.out,if_pos hha]) (by decide))
           refine sk ?_
           refine wk ?_
           exact aa rfl h'.out
         | false =>
           have hr4:=hr3.out
           rw [if_neg (by rw [hha];simp),← htk.out] at hr4
           replace hr4:=hid hr4
           clear hr3
           refine sk ?_
           refine wk ?_
           refine ao _ _ _ (by omega) (CutS (b:=by simp)) ⟨k+1,Y++[.cells [.str ty,.str va]],rfl,hkl,by omega,hid ⟨hr4.out,fun a ha=>?_⟩,rfl,by simp⟩
           rw [htk.out] at ha
           rcases List.mem_append.1 ha with h|h
           · exact hr2.out a h
           · rw [List.mem_singleton.1 h];exact htl
   · have hke:k=r.length:=by omega
     subst hke
     have g3:¬ (r.length:Int)<(r.length:Int):=by omega
     have hz:=hrow.out.1
     rw [List.drop_length,dk] at hz
     have he3:=he2.out
     rw [← hz] at he3
     simp only [ne_eq,not_true_eq_false,if_false] at he3
     replace he3:=hid he3
     clear hz
     refine wk ?_
     exact ao _ _ _ (by omega) (CutS (b:=by simp)) ⟨i+1,X++Y,rfl,hlt,by omega,hid he3.out,rfl,rfl⟩
 · have hke:i=d.length:=by omega
   subst hke
   have g1:¬ (d.length:Int)<(d.length:Int):=by omega
   have h':=h.out
   rw [← he.out,List.drop_length,gn] at h'
   replace h':=hid h'
   refine wk ?_
   exact aa rfl h'.out
end Go.Proofs.YtgpnbkdcdmfgcaaGreat.Av
