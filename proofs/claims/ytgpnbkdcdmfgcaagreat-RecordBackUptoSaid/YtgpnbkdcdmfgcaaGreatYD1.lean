/- Joined texts of the walk, made small by a program. -/
import Derived.Test.YtgpnbkdcdmfgcaaGreatYP4
import Derived.Test.YtgpnbkdcdmfgcaaGreatRows
import Derived.KernelRfl
import Derived.Test.YtgpnbkdcdmfgcaaGreatYO1
import Derived.Test.YtgpnbkdcdmfgcaaGreatYShelfP
import Derived.Laws.RangeAny
import Derived.Laws.RangeString
import Derived.Test.YtgpnbkdcdmfgcaaGreatYP5
set_option linter.unusedSimpArgs false
set_option linter.unusedVariables false
set_option maxRecDepth 100000
namespace Go.Proofs.YtgpnbkdcdmfgcaaGreat.Av
open Go
def vi:List SOp :=
 [o1 2 (.mv (.av (.bool false)))]
def vh:List SOp :=
 [o1 5 (.mv (tm 0)),
 o1 6 (.bin .eql (tm 5) (.av (.str []))),
 o1 7 (.mv (tm 6)),
 .grp none 7 false
 [og 8 7 false (.mv (tm 0)),
 og 9 7 false (.len true (tm 8)),
 og 10 7 false (.bin .gtr (tm 9) (iv 32))]
 11 (tm 10),
 o1 12 (.mv (tm 11)),
 .grp none 12 false
 [og 13 12 false (.mv (tm 0)),
 og 14 12 false (.idxS (tm 13) (iv 0)),
 og 15 12 false (.conv .i32 (tm 14)),
 og 16 12 false (.call 90 [(tm 15)]),
 og 17 12 false (.un .not (tm 16))]
 18 (tm 17)]
def vg:List SOp :=
 [o1 2 (.mv (.av (.bool false)))]
def vf:List SOp :=
 [o1 19 (.mv (tm 0)),
 o1 20 (.rangeS (tm 19))]
def ve:List SOp :=
 [o1 21 (.nextS (tm 20)),
 o1 22 (.extract (tm 21) 0)]
def vd:List SOp :=
 [o1 23 (.extract (tm 21) 2),
 o1 4 (.mv (tm 23))]
def vc:List SOp :=
 [o1 24 (.mv (tm 4)),
 o1 25 (.call 90 [(tm 24)]),
 o1 26 (.un .not (tm 25)),
 o1 27 (.mv (tm 26)),
 .grp none 27 true
 [og 28 27 true (.mv (tm 4)),
 og 29 27 true (.bin .lss (tm 28) (.av (.int .i32 48))),
 og 30 27 true (.mv (tm 29)),
 .grp (some (27,true)) 30 false
 [og 31 30 false (.mv (tm 4)),
 og 32 30 false (.bin .gtr (tm 31) (.av (.int .i32 57)))]
 33 (tm 32)]
 34 (tm 33),
 o1 35 (.mv (tm 34)),
 .grp none 35 true
 [og 36 35 true (.mv (tm 4)),
 og 37 35 true (.bin .neq (tm 36) (.av (.int .i32 45)))]
 38 (tm 37)]
def vb:List SOp :=
 [o1 2 (.mv (.av (.bool false)))]
def u9:List SOp :=
 [o1 2 (.mv (.av (.bool true)))]
def ut:aN:=⟨39,(.seq (.sreg vi [])
 (.seq (.seq (.sreg vh [true,false,false,false,false,false])
 (.cond (tm 18) (.seq (.sreg vg [])
 .ret)
 .skip))
 (.seq (.seq (.sreg vf [true,false])
 (.block 0 (.loop (.seq (.sreg ve [])
 (.seq (.cond (tm 22) .skip
 (.exit 0))
 (.block 1 (.seq (.sreg vd [true,false])
 (.seq (.sreg vc [true,false,false,false,false,false,false])
 (.cond (tm 38) (.seq (.sreg vb [])
 .ret)
 .skip)))))))))
 (.seq (.sreg u9 [])
 .ret)))),[(.tmp 2)]⟩
attribute [push_cast] vi vh vg vf ve vd vc vb u9
theorem yD:aT Tryz.prog (fun _ _=>1) 62=some ut.raw:=by kernel_rfl
def qE:List SOp :=
 [o1 2 (.mv (.av (.bool false)))]
def qD:List SOp :=
 [o1 3 (.mv (tm 0)),
 o1 4 (.bin .geq (tm 3) (.av (.int .i32 97))),
 o1 5 (.mv (tm 4)),
 .grp none 5 true
 [og 6 5 true (.mv (tm 0)),
 og 7 5 true (.bin .leq (tm 6) (.av (.int .i32 122)))]
 8 (tm 7),
 o1 9 (.mv (tm 8)),
 .grp none 9 false
 [og 10 9 false (.mv (tm 0)),
 og 11 9 false (.bin .geq (tm 10) (.av (.int .i32 65))),
 og 12 9 false (.mv (tm 11)),
 .grp (some (9,false)) 12 true
 [og 13 12 true (.mv (tm 0)),
 og 14 12 true (.bin .leq (tm 13) (.av (.int .i32 90)))]
 15 (tm 14)]
 16 (tm 15),
 o1 2 (.mv (tm 16))]
def o4:aN:=⟨17,(.seq (.sreg qE [])
 (.seq (.sreg qD [true,false,false,false,false,false,false])
 .ret)),[(.tmp 2)]⟩
attribute [push_cast] qE qD
theorem xi:aT Tryz.prog (fun _ _=>1) 90=some o4.raw:=by kernel_rfl
def wB:List SOp :=
 [o1 3 (.box (tm 1)),
 o1 4 (.mv (.av (.bool false)))]
def wA:List SOp :=
 [o1 5 (.mv (tm 0)),
 o1 6 (.mkfn 92 [(tm 3)]),
 o1 7 (.call 91 [(tm 5),(tm 6)]),
 o1 4 (.mv (tm 7))]
def xj:aN:=⟨8,(.seq (.sreg wB [])
 (.seq (.sreg wA [true,false,false,false])
 .ret)),[(.tmp 4)]⟩
attribute [push_cast] wB wA
theorem zt:aT Tryz.prog (fun _ _=>1) 63=some xj.raw:=by kernel_rfl
def s3:List SOp :=
 [o1 2 (.box (tm 0)),
 o1 3 (.mv (.av (.bool false)))]
def sZ:List SOp :=
 [o1 4 (.faddr 0 (tm 2)),
 o1 5 (.load false 1 (tm 4)),
 o1 6 (.call 64 [(tm 5)]),
 o1 7 (.load false 1 (tm 1)),
 o1 8 (.call 64 [(tm 7)]),
 o1 9 (.bin .eql (tm 6) (tm 8)),
 o1 3 (.mv (tm 9))]
def rK:aN:=⟨10,(.seq (.sreg s3 [])
 (.seq (.sdreg sZ [.pure,(.read 0 0),(.read 0 0),(.read 0 0)] [true,false,false,false,false,false,false])
 .ret)),[(.tmp 3)]⟩
attribute [push_cast] s3 sZ
theorem xC:aT Tryz.prog (fun _ _=>1) 92=some rK.raw:=by kernel_rfl
def sQ:List SOp :=
 [o1 2 (.mv (.av (.str []))),
 o1 3 (.mv (.av (.str []))),
 o1 4 (.mv (.av (.bool false)))]
def sP:List SOp :=
 [o1 5 (.mv (.av (.sl [] 0 (some 0))))]
def sO:List SOp :=
 [o1 6 (.mv (.av (.bool false)))]
def sN:List SOp :=
 [o1 7 (.mv (iv 0))]
def sM:List SOp :=
 [o1 11 (.mv (tm 7)),
 o1 12 (.mv (tm 0)),
 o1 13 (.len true (tm 12)),
 o1 14 (.bin .lss (tm 11) (tm 13)),
 o1 15 (.mv (tm 14)),
 .grp none 15 true
 [og 16 15 true (.mv (tm 0)),
 og 17 15 true (.mv (tm 7)),
 og 18 15 true (.idxS (tm 16) (tm 17)),
 og 19 15 true (.bin .neq (tm 18) (.av (.int .u8 44)))]
 20 (tm 19),
 o1 21 (.mv (tm 20)),
 .grp none 21 true
 [og 22 21 true (.mv (tm 0)),
 og 23 21 true (.mv (tm 7)),
 og 24 21 true (.idxS (tm 22) (tm 23)),
 og 25 21 true (.bin .neq (tm 24) (.av (.int .u8 43)))]
 26 (tm 25)]
def sL:List SOp :=
 [o1 27 (.mv (tm 0)),
 o1 28 (.mv (tm 7)),
 o1 29 (.idxS (tm 27) (tm 28)),
 o1 8 (.mv (tm 29))]
def sK:List SOp :=
 [o1 30 (.mv (tm 8)),
 o1 31 (.bin .eql (tm 30) (.av (.int .u8 32))),
 o1 6 (.mv (tm 31))]
def sJ:List SOp :=
 [o1 33 (.mv (tm 8)),
 o1 34 (.bin .neq (tm 33) (.av (.int .u8 92))),
 o1 32 (.mv (tm 34))]
def sI:List SOp :=
 [o1 35 (.mv (tm 8)),
 o1 36 (.bin .eql (tm 35) (.av (.int .u8 0))),
 o1 37 (.mv (tm 36)),
 .grp none 37 false
 [og 38 37 false (.mv (tm 8)),
 og 39 37 false (.call 93 [(.av (.str [34,59,60,62])),(tm 38)]),
 og 40 37 false (.bin .geq (tm 39) (iv 0))]
 41 (tm 40),
 o1 42 (.mv (tm 41)),
 .grp none 42 false
 [og 43 42 false (.mv (tm 5)),
 og 44 42 false (.len false (tm 43)),
 og 45 42 false (.bin .eql (tm 44) (iv 0)),
 og 46 42 false (.mv (tm 45)),
 .grp (some (42,false)) 46 true
 [og 47 46 true (.mv (tm 8)),
 og 48 46 true (.bin .eql (tm 47) (.av (.int .u8 32))),
 og 49 46 true (.mv (tm 48)),
 .grp (some (46,true)) 49 false
 [og 50 49 false (.mv (tm 8)),
 og 51 49 false (.bin .eql (tm 50) (.av (.int .u8 35)))]
 52 (tm 51)]
 53 (tm 52)]
 54 (tm 53)]
def sH:List SOp :=
 [o1 2 (.mv (.av (.str []))),
 o1 3 (.mv (.av (.str []))),
 o1 4 (.mv (.av (.bool false)))]
def qA:List SOp :=
 [o1 56 (.mv (tm 7)),
 o1 57 (.bin .add (tm 56) (iv 1)),
 o1 58 (.mv (tm 0)),
 o1 59 (.len true (tm 58)),
 o1 60 (.bin .lss (tm 57) (tm 59)),
 o1 61 (.mv (tm 60)),
 .grp none 61 true
 [og 62 61 true (.mv (tm 0)),
 og 63 61 true (.mv (tm 7)),
 og 64 61 true (.bin .add (tm 63) (iv 1)),
 og 65 61 true (.idxS (tm 62) (tm 64)),
 og 66 61 true (.call 93 [(.av (.str [34,43,44,59,60,62,92,32,35,61])),(tm 65)]),
 og 67 61 true (.bin .geq (tm 66) (iv 0))]
 68 (tm 67),
 o1 55 (.mv (tm 68))]
def qz:List SOp :=
 [o1 69 (.mv (tm 7)),
 o1 70 (.bin .add (tm 69) (iv 1)),
 o1 7 (.mv (tm 70))]
def qy:List SOp :=
 [o1 71 (.mv (tm 0)),
 o1 72 (.mv (tm 7)),
 o1 73 (.idxS (tm 71) (tm 72)),
 o1 8 (.mv (tm 73))]
def qx:List SOp :=
 [o1 75 (.mv (tm 7)),
 o1 76 (.bin .add (tm 75) (iv 2)),
 o1 77 (.mv (tm 0)),
 o1 78 (.len true (tm 77)),
 o1 79 (.bin .lss (tm 76) (tm 78)),
 o1 74 (.mv (tm 79))]
def qw:List SOp :=
 [o1 81 (.mv (tm 0)),
 o1 82 (.mv (tm 7)),
 o1 83 (.bin .add (tm 82) (iv 1)),
 o1 84 (.mv (tm 7)),
 o1 85 (.bin .add (tm 84) (iv 3)),
 o1 86 (.slS (tm 81) (some (tm 83)) (some (tm 85))),
 o1 87 (.call 101 [(tm 86)]),
 o1 80 (.mv (tm 87)),
 o1 88 (.extract (tm 80) 0),
 o1 89 (.extract (tm 80) 1),
 o1 9 (.mv (tm 88)),
 o1 10 (.mv (tm 89))]
def qv:List SOp :=
 [o1 90 (.mv (tm 10)),
 o1 91 (.un .not (tm 90))]
def qu:List SOp :=
 [o1 2 (.mv (.av (.str []))),
 o1 3 (.mv (.av (.str []))),
 o1 4 (.mv (.av (.bool false)))]
def qt:List SOp :=
 [o1 92 (.mv (tm 9)),
 o1 93 (.idxS (tm 92) (iv 0)),
 o1 8 (.mv (tm 93))]
def qr:List SOp :=
 [o1 94 (.mv (tm 7)),
 o1 95 (.bin .add (tm 94) (iv 2)),
 o1 7 (.mv (tm 95))]
def qq:List SOp :=
 [o1 2 (.mv (.av (.str []))),
 o1 3 (.mv (.av (.str []))),
 o1 4 (.mv (.av (.bool false)))]
def qp:List SOp :=
 [o1 96 (.mv (tm 5)),
 o1 97 (.mv (tm 8)),
 o1 98 (.bslice false 1 1 [(.int .u8 0)] [(0,(1,(tm 97)))]),
 o1 99 (.app 1 1 1 [(.int .u8 0)] (tm 96) (tm 98)),
 o1 5 (.mv (tm 99))]
def qo:List SOp :=
 [o1 100 (.mv (tm 7)),
 o1 101 (.bin .add (tm 100) (iv 1)),
 o1 7 (.mv (tm 101))]
def qn:List SOp :=
 [o1 102 (.mv (tm 5)),
 o1 103 (.b2s (tm 102)),
 o1 104 (.mv (tm 0)),
 o1 105 (.mv (tm 7)),
 o1 106 (.slS (tm 104) (some (tm 105)) none),
 o1 107 (.mv (tm 6)),
 o1 108 (.un .not (tm 107)),
 o1 2 (.mv (tm 103)),
 o1 3 (.mv (tm 106)),
 o1 4 (.mv (tm 108))]
def rJ:aN:=⟨109,(.seq (.sreg sQ [])
 (.seq (.sreg sP [])
 (.seq (.sreg sO [])
 (.seq (.sreg sN [])
 (.seq (.block 0 (.loop (.seq (.seq (.sreg sM [true,false,false,false,false,false,false,false])
 (.cond (tm 26) .skip
 (.exit 0)))
 (.block 1 (.seq (.sreg sL [true,false,false,false])
 (.seq (.sreg sK [true,false,false])
 (.seq (.block 2 (.seq (.sreg sJ [true,false,false])
 (.cond (tm 32) (.seq (.sreg sI [true,false,false,false,false,false])
 (.cond (tm 54) (.seq (.sreg sH [])
 .ret)
 .skip))
 (.seq (.sreg qA [true,false,false,false,false,false,false,false])
 (.cond (tm 55) (.seq (.sreg qz [true,false,false])
 (.sreg qy [true,false,false,false]))
 (.seq (.sreg qx [true,false,false,false,false,false])
 (.cond (tm 74) (.seq (.sreg qw [true,true,false,false,false,false,false,false,false,false,false,false])
 (.seq (.seq (.sreg qv [true,false])
 (.cond (tm 91) (.seq (.sreg qu [])
 .ret)
 .skip))
 (.seq (.sreg qt [true,false,false])
 (.sreg qr [true,false,false]))))
 (.seq (.sreg qq [])
 .ret))))))))
 (.seq (.sreg qp [true,false,false,false,false])
 (.sreg qo [true,false,false])))))))))
 (.seq (.sdreg qn [.pure,(.read 0 0),.pure,.pure,(.read 0 0),.pure,.pure,.pure,.pure] [true,true,true,false,false,false,false,false,false,false])
 .ret)))))),[(.tmp 2),(.tmp 3),(.tmp 4)]⟩
attribute [push_cast] sQ sP sO sN sM sL sK sJ sI sH qA qz qy qx qw qv qu qt qr qq qp qo qn
theorem xB:aT Tryz.prog (fun _ _=>1) 77=some rJ.raw:=by kernel_rfl
def tJ:List SOp :=
 [o1 2 (.mv (.av (.sl [] 0 (some 0)))),
 o1 3 (.mv (iv 0))]
def tI:List SOp :=
 [o1 10 (.mv (tm 0)),
 o1 11 (.len true (tm 10)),
 o1 12 (.bin .gtr (tm 11) (iv 4096))]
def tH:List SOp :=
 [o1 2 (.mv (.av (.sl [] 0 (some 0)))),
 o1 3 (.mv (iv 5))]
def tG:List SOp :=
 [o1 13 (.mv (tm 0)),
 o1 14 (.bin .eql (tm 13) (.av (.str [])))]
def tF:List SOp :=
 [o1 2 (.mv (.av (.sl [] 0 (some 0)))),
 o1 3 (.mv (iv 0))]
def tE:List SOp :=
 [o1 4 (.mv (.av (.sl [] 0 (some 0))))]
def tD:List SOp :=
 [o1 5 (.mv (.av (.sl [] 0 (some 0))))]
def tC:List SOp :=
 [o1 15 (.mv (tm 4)),
 o1 16 (.len false (tm 15)),
 o1 17 (.bin .eql (tm 16) (iv 32)),
 o1 18 (.mv (tm 17)),
 .grp none 18 false
 [og 19 18 false (.mv (tm 5)),
 og 20 18 false (.len false (tm 19)),
 og 21 18 false (.bin .eql (tm 20) (iv 8))]
 22 (tm 21)]
def tB:List SOp :=
 [o1 2 (.mv (.av (.sl [] 0 (some 0)))),
 o1 3 (.mv (iv 9))]
def tz:List SOp :=
 [o1 24 (.mv (tm 0)),
 o1 25 (.call 76 [(tm 24),(.av (.str [61]))]),
 o1 23 (.mv (tm 25)),
 o1 26 (.extract (tm 23) 0),
 o1 27 (.extract (tm 23) 1),
 o1 28 (.extract (tm 23) 2),
 o1 6 (.mv (tm 26)),
 o1 7 (.mv (tm 27)),
 o1 8 (.mv (tm 28))]
def rl:List SOp :=
 [o1 29 (.mv (tm 8)),
 o1 30 (.un .not (tm 29)),
 o1 31 (.mv (tm 30)),
 .grp none 31 false
 [og 32 31 false (.mv (tm 6)),
 og 33 31 false (.call 62 [(tm 32)]),
 og 34 31 false (.un .not (tm 33))]
 35 (tm 34)]
def rk:List SOp :=
 [o1 2 (.mv (.av (.sl [] 0 (some 0)))),
 o1 3 (.mv (iv 4))]
def rj:List SOp :=
 [o1 36 (.mv (tm 5)),
 o1 37 (.mv (tm 6)),
 o1 38 (.call 63 [(tm 36),(tm 37)])]
def ri:List SOp :=
 [o1 2 (.mv (.av (.sl [] 0 (some 0)))),
 o1 3 (.mv (iv 21))]
def rh:List SOp :=
 [o1 40 (.mv (tm 7)),
 o1 41 (.call 77 [(tm 40)]),
 o1 39 (.mv (tm 41)),
 o1 42 (.extract (tm 39) 0),
 o1 43 (.extract (tm 39) 1),
 o1 44 (.extract (tm 39) 2),
 o1 9 (.mv (tm 42)),
 o1 7 (.mv (tm 43)),
 o1 8 (.mv (tm 44))]
def rg:List SOp :=
 [o1 45 (.mv (tm 8)),
 o1 46 (.un .not (tm 45))]
def rf:List SOp :=
 [o1 2 (.mv (.av (.sl [] 0 (some 0)))),
 o1 3 (.mv (iv 4))]
def re:List SOp :=
 [o1 47 (.mv (tm 5)),
 o1 48 (.mv (tm 6)),
 o1 49 (.mv (tm 9)),
 o1 50 (.build [(.str []),(.str [])] [(0,(1,(tm 48))),(1,(1,(tm 49)))]),
 o1 51 (.bslice false 2 1 [(.str []),(.str [])] [(0,(2,(tm 50)))]),
 o1 52 (.app 1 2 32 [(.str []),(.str [])] (tm 47) (tm 51)),
 o1 5 (.mv (tm 52))]
def rd:List SOp :=
 [o1 53 (.mv (tm 7)),
 o1 54 (.bin .eql (tm 53) (.av (.str [])))]
def ra:List SOp :=
 [o1 55 (.mv (tm 4)),
 o1 56 (.mv (tm 5)),
 o1 57 (.bslice false 1 1 [(.sl [] 0 (some 0))] [(0,(1,(tm 56)))]),
 o1 58 (.app 1 1 24 [(.sl [] 0 (some 0))] (tm 55) (tm 57)),
 o1 2 (.mv (tm 58)),
 o1 3 (.mv (iv 0))]
def q9:List SOp :=
 [o1 59 (.mv (tm 7)),
 o1 60 (.idxS (tm 59) (iv 0)),
 o1 61 (.bin .eql (tm 60) (.av (.int .u8 44)))]
def q0:List SOp :=
 [o1 62 (.mv (tm 4)),
 o1 63 (.mv (tm 5)),
 o1 64 (.bslice false 1 1 [(.sl [] 0 (some 0))] [(0,(1,(tm 63)))]),
 o1 65 (.app 1 1 24 [(.sl [] 0 (some 0))] (tm 62) (tm 64)),
 o1 4 (.mv (tm 65)),
 o1 5 (.mv (.av (.sl [] 0 (some 0))))]
def qZ:List SOp :=
 [o1 66 (.mv (tm 7)),
 o1 67 (.slS (tm 66) (some (iv 1)) none),
 o1 0 (.mv (tm 67))]
def rN:aN:=⟨68,(.seq (.sreg tJ [])
 (.seq (.seq (.sreg tI [true,false,false])
 (.cond (tm 12) (.seq (.sreg tH [])
 .ret)
 .skip))
 (.seq (.seq (.sreg tG [true,false])
 (.cond (tm 14) (.seq (.sreg tF [])
 .ret)
 .skip))
 (.seq (.sreg tE [])
 (.seq (.sreg tD [])
 (.block 0 (.loop (.block 1 (.seq (.seq (.sreg tC [true,false,false,false,false])
 (.cond (tm 22) (.seq (.sreg tB [])
 .ret)
 .skip))
 (.seq (.sreg tz [true,true,true,false,false,false,false,false,false])
 (.seq (.seq (.sreg rl [true,false,false,false])
 (.cond (tm 35) (.seq (.sreg rk [])
 .ret)
 .skip))
 (.seq (.seq (.sreg rj [true,false,false])
 (.cond (tm 38) (.seq (.sreg ri [])
 .ret)
 .skip))
 (.seq (.sreg rh [true,true,true,false,false,false,false,false,false])
 (.seq (.seq (.sreg rg [true,false])
 (.cond (tm 46) (.seq (.sreg rf [])
 .ret)
 .skip))
 (.seq (.sreg re [true,false,false,false,false,false,false])
 (.seq (.seq (.sreg rd [true,false])
 (.cond (tm 54) (.seq (.sreg ra [true,true,false,false,false,false])
 .ret)
 .skip))
 (.seq (.seq (.sreg q9 [true,false,false])
 (.cond (tm 61) (.sreg q0 [true,true,false,false,false,false])
 .skip))
 (.sreg qZ [true,false,false])))))))))))))))))),[(.tmp 2),(.tmp 3)]⟩
attribute [push_cast] tJ tI tH tG tF tE tD tC tB tz rl rk rj ri rh rg rf re rd ra q9 q0 qZ
theorem xF:aT Tryz.prog (fun _ _=>1) 52=some rN.raw:=by kernel_rfl
def oQ:List SOp :=
 [o1 2 (.mv (.av (.str [])))]
def oP:List SOp :=
 [o1 3 (.mv (.av (.sl [] 0 (some 0))))]
def oO:List SOp :=
 [o1 7 (.mv (tm 0)),
 o1 8 (.s2b (tm 7)),
 o1 9 (.len false (tm 8)),
 o1 10 (.mv (iv 0))]
def oN:List SOp :=
 [o1 11 (.bin .lss (tm 10) (tm 9))]
def oM:List SOp :=
 [o1 12 (.mv (tm 10)),
 o1 13 (.iaddr 1 (tm 8) (tm 10)),
 o1 14 (.load false 1 (tm 13)),
 o1 4 (.mv (tm 12)),
 o1 5 (.mv (tm 14))]
def oL:List SOp :=
 [o1 15 (.mv (tm 4)),
 o1 16 (.bin .eql (tm 15) (iv 0)),
 o1 17 (.mv (tm 16)),
 .grp none 17 true
 [og 18 17 true (.mv (tm 5)),
 og 19 17 true (.bin .eql (tm 18) (.av (.int .u8 32))),
 og 20 17 true (.mv (tm 19)),
 .grp (some (17,true)) 20 false
 [og 21 20 false (.mv (tm 5)),
 og 22 20 false (.bin .eql (tm 21) (.av (.int .u8 35)))]
 23 (tm 22)]
 24 (tm 23),
 o1 25 (.mv (tm 24)),
 .grp none 25 false
 [og 26 25 false (.mv (tm 4)),
 og 27 25 false (.mv (tm 0)),
 og 28 25 false (.len true (tm 27)),
 og 29 25 false (.bin .sub (tm 28) (iv 1)),
 og 30 25 false (.bin .eql (tm 26) (tm 29)),
 og 31 25 false (.mv (tm 30)),
 .grp (some (25,false)) 31 true
 [og 32 31 true (.mv (tm 5)),
 og 33 31 true (.bin .eql (tm 32) (.av (.int .u8 32)))]
 34 (tm 33)]
 35 (tm 34),
 o1 6 (.mv (tm 35))]
def oK:List SOp :=
 [o1 37 (.mv (tm 5)),
 o1 38 (.bin .eql (tm 37) (.av (.int .u8 0))),
 o1 36 (.mv (tm 38))]
def oJ:List SOp :=
 [o1 39 (.mv (tm 3)),
 o1 40 (.app 1 1 1 [(.int .u8 0)] (tm 39) (.av (.str [92,48,48]))),
 o1 3 (.mv (tm 40))]
def oI:List SOp :=
 [o1 42 (.mv (tm 6)),
 o1 43 (.mv (tm 42)),
 .grp none 43 false
 [og 44 43 false (.mv (tm 5)),
 og 45 43 false (.call 93 [(.av (.str [34,43,44,59,60,62,92])),(tm 44)]),
 og 46 43 false (.bin .geq (tm 45) (iv 0))]
 47 (tm 46),
 o1 41 (.mv (tm 47))]
def oH:List SOp :=
 [o1 48 (.mv (tm 3)),
 o1 49 (.bslice false 1 1 [(.int .u8 0)] [(0,(1,(.av (.int .u8 92))))]),
 o1 50 (.app 1 1 1 [(.int .u8 0)] (tm 48) (tm 49)),
 o1 3 (.mv (tm 50))]
def ma:List SOp :=
 [o1 51 (.mv (tm 3)),
 o1 52 (.mv (tm 5)),
 o1 53 (.bslice false 1 1 [(.int .u8 0)] [(0,(1,(tm 52)))]),
 o1 54 (.app 1 1 1 [(.int .u8 0)] (tm 51) (tm 53)),
 o1 3 (.mv (tm 54))]
def l9:List SOp :=
 [o1 55 (.bin .add (tm 10) (iv 1)),
 o1 10 (.mv (tm 55))]
def l8:List SOp :=
 [o1 56 (.mv (tm 3)),
 o1 57 (.b2s (tm 56)),
 o1 2 (.mv (tm 57))]
def kg:aN:=⟨58,(.seq (.sreg oQ [])
 (.seq (.sreg oP [])
 (.seq (.seq (.sreg oO [true,true,true,false])
 (.block 0 (.loop (.seq (.sreg oN [])
 (.seq (.cond (tm 11) .skip
 (.exit 0))
 (.seq (.block 1 (.seq (.sreg oM [true,true,false,false,false])
 (.seq (.sreg oL [true,false,false,false,false,false,false])
 (.seq (.block 2 (.seq (.sreg oK [true,false,false])
 (.cond (tm 36) (.seq (.sreg oJ [true,false,false])
 (.exit 1))
 (.seq (.sreg oI [true,false,false,false])
 (.cond (tm 41) (.sreg oH [true,false,false,false])
 .skip)))))
 (.sreg ma [true,false,false,false,false])))))
 (.sreg l9 [true,false])))))))
 (.seq (.sreg l8 [true,false,false])
 .ret)))),[(.tmp 2)]⟩
attribute [push_cast] oQ oP oO oN oM oL oK oJ oI oH ma l9 l8
theorem vU:aT Tryz.prog (fun _ _=>1) 66=some kg.raw:=by kernel_rfl
def th:List SOp :=
 [o1 2 (.mv (iv 0))]
def tf:List SOp :=
 [o1 7 (.mv (tm 0)),
 o1 8 (.len false (tm 7)),
 o1 9 (.mv (iv 0))]
def te:List SOp :=
 [o1 10 (.bin .lss (tm 9) (tm 8))]
def td:List SOp :=
 [o1 11 (.mv (tm 9)),
 o1 12 (.iaddr 1 (tm 7) (tm 9)),
 o1 13 (.load false 1 (tm 12)),
 o1 3 (.mv (tm 11)),
 o1 4 (.mv (tm 13))]
def tc:List SOp :=
 [o1 15 (.mv (tm 3)),
 o1 16 (.bin .eql (tm 15) (iv 32)),
 o1 14 (.mv (tm 16))]
def ta:List SOp :=
 [o1 2 (.mv (iv 9))]
def s9:List SOp :=
 [o1 18 (.mv (tm 4)),
 o1 19 (.len false (tm 18)),
 o1 20 (.bin .eql (tm 19) (iv 0)),
 o1 17 (.mv (tm 20))]
def s8:List SOp :=
 [o1 2 (.mv (iv 2))]
def s7:List SOp :=
 [o1 21 (.mv (tm 4)),
 o1 22 (.len false (tm 21)),
 o1 23 (.mv (iv 0))]
def s6:List SOp :=
 [o1 24 (.bin .lss (tm 23) (tm 22))]
def qO:List SOp :=
 [o1 25 (.mv (tm 23)),
 o1 26 (.iaddr 2 (tm 21) (tm 23)),
 o1 27 (.load true 2 (tm 26)),
 o1 6 (.alloc [(.str []),(.str [])]),
 o1 5 (.mv (tm 25)),
 o0 (.store 2 (tm 6) (tm 27))]
def qN:List SOp :=
 [o1 29 (.mv (tm 5)),
 o1 30 (.bin .eql (tm 29) (iv 8)),
 o1 28 (.mv (tm 30))]
def qM:List SOp :=
 [o1 2 (.mv (iv 9))]
def qL:List SOp :=
 [o1 32 (.faddr 0 (tm 6)),
 o1 33 (.load false 1 (tm 32)),
 o1 34 (.call 62 [(tm 33)]),
 o1 35 (.un .not (tm 34)),
 o1 31 (.mv (tm 35))]
def qK:List SOp :=
 [o1 2 (.mv (iv 20))]
def qJ:List SOp :=
 [o1 37 (.mv (tm 4)),
 o1 38 (.mv (tm 5)),
 o1 39 (.slV 2 (tm 37) none (some (tm 38)) none),
 o1 40 (.faddr 0 (tm 6)),
 o1 41 (.load false 1 (tm 40)),
 o1 42 (.call 63 [(tm 39),(tm 41)]),
 o1 36 (.mv (tm 42))]
def qI:List SOp :=
 [o1 2 (.mv (iv 21))]
def qH:List SOp :=
 [o1 43 (.bin .add (tm 23) (iv 1)),
 o1 23 (.mv (tm 43))]
def qG:List SOp :=
 [o1 44 (.bin .add (tm 9) (iv 1)),
 o1 9 (.mv (tm 44))]
def qF:List SOp :=
 [o1 2 (.mv (iv 0))]
def rL:aN:=⟨45,(.seq (.sreg th [])
 (.seq (.seq (.sreg tf [])
 (.block 0 (.loop (.seq (.sreg te [])
 (.seq (.cond (tm 10) .skip
 (.exit 0))
 (.seq (.block 1 (.seq (.sreg td [true,true,false,false,false])
 (.seq (.block 2 (.seq (.sreg tc [true,false,false])
 (.cond (tm 14) (.seq (.sreg ta [])
 .ret)
 (.seq (.sreg s9 [true,false,false,false])
 (.cond (tm 17) (.seq (.sreg s8 [])
 .ret)
 .skip)))))
 (.seq (.sreg s7 [])
 (.block 3 (.loop (.seq (.sreg s6 [])
 (.seq (.cond (tm 24) .skip
 (.exit 3))
 (.seq (.block 4 (.seq (.sreg qO [true,true,false,false,false])
 (.block 5 (.seq (.sreg qN [true,false,false])
 (.cond (tm 28) (.seq (.sreg qM [])
 .ret)
 (.seq (.sreg qL [true,false,false,false,false])
 (.cond (tm 31) (.seq (.sreg qK [])
 .ret)
 (.seq (.sdreg qJ [.pure,.pure,(.read 0 0),.pure,(.read 0 0)] [true,false,false,false,false,false,false])
 (.cond (tm 36) (.seq (.sreg qI [])
 .ret)
 .skip)))))))))
 (.sreg qH [true,false]))))))))))
 (.sreg qG [true,false])))))))
 (.seq (.sreg qF [])
 .ret))),[(.tmp 2)]⟩
attribute [push_cast] th tf te td tc ta s9 s8 s7 s6 qO qN qM qL qK qJ qI qH qG qF
theorem xD:aT Tryz.prog (fun _ _=>1) 41=some rL.raw:=by kernel_rfl
def tx:List SOp :=
 [o1 2 (.mv (.av (.str []))),
 o1 3 (.mv (iv 0))]
def tw:List SOp :=
 [o1 11 (.mv (tm 0)),
 o1 12 (.call 41 [(tm 11)]),
 o1 4 (.mv (tm 12))]
def tv:List SOp :=
 [o1 13 (.mv (tm 4)),
 o1 14 (.bin .neq (tm 13) (iv 0))]
def tu:List SOp :=
 [o1 15 (.mv (tm 4)),
 o1 2 (.mv (.av (.str []))),
 o1 3 (.mv (tm 15))]
def tt:List SOp :=
 [o1 5 (.mv (iv 0))]
def tq:List SOp :=
 [o1 16 (.mv (tm 0)),
 o1 17 (.len false (tm 16)),
 o1 18 (.mv (iv 0))]
def tp:List SOp :=
 [o1 19 (.bin .lss (tm 18) (tm 17))]
def tn:List SOp :=
 [o1 20 (.iaddr 1 (tm 16) (tm 18)),
 o1 21 (.load false 1 (tm 20)),
 o1 7 (.mv (tm 21))]
def tj:List SOp :=
 [o1 22 (.mv (tm 7)),
 o1 23 (.len false (tm 22)),
 o1 24 (.mv (iv 0))]
def ti:List SOp :=
 [o1 25 (.bin .lss (tm 24) (tm 23))]
def qY:List SOp :=
 [o1 26 (.iaddr 2 (tm 22) (tm 24)),
 o1 27 (.load true 2 (tm 26)),
 o1 9 (.alloc [(.str []),(.str [])]),
 o0 (.store 2 (tm 9) (tm 27))]
def qX:List SOp :=
 [o1 28 (.faddr 1 (tm 9)),
 o1 29 (.load false 1 (tm 28)),
 o1 30 (.len true (tm 29)),
 o1 31 (.bin .gtr (tm 30) (iv 4096))]
def qW:List SOp :=
 [o1 2 (.mv (.av (.str []))),
 o1 3 (.mv (iv 5))]
def qV:List SOp :=
 [o1 32 (.mv (tm 5)),
 o1 33 (.bin .add (tm 32) (iv 1)),
 o1 5 (.mv (tm 33))]
def qU:List SOp :=
 [o1 34 (.bin .add (tm 24) (iv 1)),
 o1 24 (.mv (tm 34))]
def qT:List SOp :=
 [o1 35 (.bin .add (tm 18) (iv 1)),
 o1 18 (.mv (tm 35))]
def qS:List SOp :=
 [o1 36 (.mv (tm 0)),
 o1 37 (.call 42 [(tm 36),(.av (.bool false))]),
 o1 10 (.mv (tm 37))]
def qR:List SOp :=
 [o1 38 (.mv (tm 10)),
 o1 39 (.len true (tm 38)),
 o1 40 (.bin .gtr (tm 39) (iv 4096))]
def qQ:List SOp :=
 [o1 2 (.mv (.av (.str []))),
 o1 3 (.mv (iv 5))]
def qP:List SOp :=
 [o1 41 (.mv (tm 10)),
 o1 2 (.mv (tm 41)),
 o1 3 (.mv (iv 0))]
def rM:aN:=⟨42,(.seq (.sreg tx [])
 (.seq (.seq (.sreg tw [true,false,false])
 (.seq (.sreg tv [true,false])
 (.cond (tm 14) (.seq (.sreg tu [true,true,false])
 .ret)
 .skip)))
 (.seq (.sreg tt [])
 (.seq (.seq (.sreg tq [])
 (.block 0 (.loop (.seq (.sreg tp [])
 (.seq (.cond (tm 19) .skip
 (.exit 0))
 (.seq (.block 1 (.seq (.sreg tn [true,false,false])
 (.seq (.sreg tj [])
 (.block 2 (.loop (.seq (.sreg ti [])
 (.seq (.cond (tm 25) .skip
 (.exit 2))
 (.seq (.block 3 (.seq (.sreg qY [true,false,false])
 (.seq (.seq (.sreg qX [true,false,false,false])
 (.cond (tm 31) (.seq (.sreg qW [])
 .ret)
 .skip))
 (.sreg qV [true,false,false]))))
 (.sreg qU [true,false])))))))))
 (.sreg qT [true,false])))))))
 (.seq (.sreg qS [true,false,false])
 (.seq (.seq (.sreg qR [true,false,false])
 (.cond (tm 40) (.seq (.sreg qQ [])
 .ret)
 .skip))
 (.seq (.sreg qP [true,true,false])
 .ret))))))),[(.tmp 2),(.tmp 3)]⟩
attribute [push_cast] tx tw tv tu tt tq tp tn tj ti qY qX qW qV qU qT qS qR qQ qP
theorem xE:aT Tryz.prog (fun _ _=>1) 20=some rM.raw:=by kernel_rfl
def vo:List SOp :=
 [o1 2 (.mv (.av (.str []))),
 o1 3 (.mv (iv 0))]
def vn:List SOp :=
 [o1 7 (.mv (tm 0)),
 o1 8 (.call 20 [(tm 7)]),
 o1 6 (.mv (tm 8)),
 o1 9 (.extract (tm 6) 0),
 o1 10 (.extract (tm 6) 1),
 o1 4 (.mv (tm 9)),
 o1 5 (.mv (tm 10))]
def vm:List SOp :=
 [o1 11 (.mv (tm 5)),
 o1 12 (.bin .neq (tm 11) (iv 0))]
def vl:List SOp :=
 [o1 13 (.mv (tm 5)),
 o1 2 (.mv (.av (.str []))),
 o1 3 (.mv (tm 13))]
def vj:List SOp :=
 [o1 14 (.mv (tm 0)),
 o1 15 (.call 42 [(tm 14),(.av (.bool true))]),
 o1 2 (.mv (tm 15)),
 o1 3 (.mv (iv 0))]
def uu:aN:=⟨16,(.seq (.sreg vo [])
 (.seq (.seq (.sreg vn [true,false,false,false,false,false,false])
 (.seq (.sreg vm [true,false])
 (.cond (tm 12) (.seq (.sreg vl [true,true,false])
 .ret)
 .skip)))
 (.seq (.sreg vj [true,true,false,false])
 .ret))),[(.tmp 2),(.tmp 3)]⟩
attribute [push_cast] vo vn vm vl vj
theorem yE:aT Tryz.prog (fun _ _=>1) 60=some uu.raw:=by kernel_rfl
def bc:List SOp :=
 [o1 4 (.mv (.av (.bool false)))]
def bb:List SOp :=
 [o1 5 (.mv (tm 0)),
 o1 6 (.mv (tm 1)),
 o1 7 (.call 112 [(tm 5),(tm 6)]),
 o1 8 (.bin .geq (tm 7) (iv 0)),
 o1 4 (.mv (tm 8))]
def aH:aN:=⟨9,(.seq (.sreg bc [])
 (.seq (.sreg bb [true,false,false,false,false])
 .ret)),[(.tmp 4)]⟩
attribute [push_cast] bc bb
theorem cZ:aT Tryz.prog (fun _ _=>1) 91=some aH.raw:=by kernel_rfl
def bu:List SOp :=
 [o1 4 (.mv (iv 0))]
def bt:List SOp :=
 [o1 6 (.mv (tm 0)),
 o1 7 (.len false (tm 6)),
 o1 8 (.mv (iv 0))]
def bs:List SOp :=
 [o1 9 (.bin .lss (tm 8) (tm 7))]
def br:List SOp :=
 [o1 10 (.mv (tm 8)),
 o1 5 (.mv (tm 10))]
def bq:List SOp :=
 [o1 11 (.mv (tm 1)),
 o1 12 (.mv (tm 0)),
 o1 13 (.mv (tm 5)),
 o1 14 (.iaddr 2 (tm 12) (tm 13)),
 o1 15 (.load true 2 (tm 14)),
 o1 16 (.callv (tm 11) [(tm 15)])]
def bp:List SOp :=
 [o1 17 (.mv (tm 5)),
 o1 4 (.mv (tm 17))]
def bo:List SOp :=
 [o1 18 (.bin .add (tm 8) (iv 1)),
 o1 8 (.mv (tm 18))]
def bn:List SOp :=
 [o1 4 (.mv (iv (-1)))]
def aR:aN:=⟨19,(.seq (.sreg bu [])
 (.seq (.seq (.sreg bt [true,true,false])
 (.block 0 (.loop (.seq (.sreg bs [])
 (.seq (.cond (tm 9) .skip
 (.exit 0))
 (.seq (.block 1 (.seq (.sreg br [true,false])
 (.seq (.sreg bq [true,false,false,false,false,false])
 (.cond (tm 16) (.seq (.sreg bp [true,false])
 .ret)
 .skip))))
 (.sreg bo [true,false])))))))
 (.seq (.sreg bn [])
 .ret))),[(.tmp 4)]⟩
attribute [push_cast] bu bt bs br bq bp bo bn
theorem dk:aT Tryz.prog (fun _ _=>1) 112=some aR.raw:=by kernel_rfl
def ky:List SOp :=
 [o1 4 (.mv (.av (.str []))),
 o1 5 (.mv (.av (.str []))),
 o1 6 (.mv (.av (.bool false)))]
def kx:List SOp :=
 [o1 7 (.mv (tm 0)),
 o1 8 (.mv (tm 1)),
 o1 9 (.call 100 [(tm 7),(tm 8)]),
 o1 10 (.extract (tm 9) 0),
 o1 11 (.extract (tm 9) 1),
 o1 12 (.extract (tm 9) 2),
 o1 4 (.mv (tm 10)),
 o1 5 (.mv (tm 11)),
 o1 6 (.mv (tm 12))]
def du:aN:=⟨13,(.seq (.sreg ky [])
 (.seq (.sreg kx [true,true,true,false,false,false,false,false,false])
 .ret)),[(.tmp 4),(.tmp 5),(.tmp 6)]⟩
attribute [push_cast] ky kx
theorem jJ:aT Tryz.prog (fun _ _=>1) 76=some du.raw:=by kernel_rfl
def cP:List SOp :=
 [o1 4 (.mv (.av (.str []))),
 o1 5 (.mv (.av (.str []))),
 o1 6 (.mv (.av (.bool false)))]
def cO:List SOp :=
 [o1 8 (.mv (tm 0)),
 o1 9 (.mv (tm 1)),
 o1 10 (.call 127 [(tm 8),(tm 9)]),
 o1 7 (.mv (tm 10))]
def cN:List SOp :=
 [o1 11 (.mv (tm 7)),
 o1 12 (.bin .geq (tm 11) (iv 0))]
def cM:List SOp :=
 [o1 13 (.mv (tm 0)),
 o1 14 (.mv (tm 7)),
 o1 15 (.slS (tm 13) none (some (tm 14))),
 o1 16 (.mv (tm 0)),
 o1 17 (.mv (tm 7)),
 o1 18 (.mv (tm 1)),
 o1 19 (.len true (tm 18)),
 o1 20 (.bin .add (tm 17) (tm 19)),
 o1 21 (.slS (tm 16) (some (tm 20)) none),
 o1 4 (.mv (tm 15)),
 o1 5 (.mv (tm 21)),
 o1 6 (.mv (.av (.bool true)))]
def cL:List SOp :=
 [o1 22 (.mv (tm 0)),
 o1 4 (.mv (tm 22)),
 o1 5 (.mv (.av (.str []))),
 o1 6 (.mv (.av (.bool false)))]
def aG:aN:=⟨23,(.seq (.sreg cP [])
 (.seq (.seq (.sreg cO [true,false,false,false])
 (.seq (.sreg cN [true,false])
 (.cond (tm 12) (.seq (.sdreg cM [.pure,.pure,(.read 0 0),.pure,.pure,.pure,(.read 0 0),.pure,(.read 0 0),.pure] [true,true,true,false,false,false,false,false,false,false,false,false])
 .ret)
 .skip)))
 (.seq (.sreg cL [true,true,true,false])
 .ret))),[(.tmp 4),(.tmp 5),(.tmp 6)]⟩
attribute [push_cast] cP cO cN cM cL
theorem cE:aT Tryz.prog (fun _ _=>1) 100=some aG.raw:=by kernel_rfl
set_option maxHeartbeats 8000000
set_option maxRecDepth 100000
theorem zI {n:Int} (h0 : -2147483648≤n) (h1:n<2147483648):IntKind.i32.wrap n=n:=by
 simp only [IntKind.wrap,IntKind.bits,IntKind.signed]
 simp
 omega
theorem Ax {s:List UInt8} {p:Nat} (h:p<s.length) (ha:(s.getD p 0).toNat<128):xb s p=((s.getD p 0).toNat,1):=by
 have e:s.getD p 0=s[p]:=by simp [h]
 rw [e] at ha ⊢
 exact decode_ascii ⟨⟨s⟩⟩ p h ha
theorem B2 {s:List UInt8} {p:Nat} (h:p<s.length) (ha:128≤(s.getD p 0).toNat):128≤(xb s p).1:=by
 have e:s.getD p 0=s[p]:=by simp [h]
 rw [e] at ha
 exact (decode_high ⟨⟨s⟩⟩ p h ha).1
def mc (x:Int):Bool:=(decide (97≤x) && decide (x≤122)) || (decide (65≤x) && decide (x≤90))
theorem eE {x:Int} {L:List Blk} {K:AV→List Blk→Prop} (h:K (.bool (mc x)) L):ad Tryz.prog 90 [.int .i32 x] L K:=by
 refine ae xi (by simp [o4]) ?_
 simp only [o4,an]
 refine wk ?_
 all_goals (first|refine aa rfl (Kto h ?_)|refine aj (Kto h ?_)|refine aa (by simp only [AV.refs,AV.refsL, *];rfl) (Kto h ?_)|refine au (aa rfl (Kto h ?_))|(trace_state;fail))
 all_goals (first|(simp [mc, *];done)|(simp [mc, *];omega)|(simp [mc, *];intros;omega)|(simp_all [Hid,mc];done)|(simp_all [Hid,mc];omega))
def wn (x:Int):Bool:=mc x || (decide (48≤x) && decide (x≤57)) || decide (x=45)
def rq (s:List UInt8):Bool:=decide (1≤s.length) && decide (s.length≤32) && mc ((s.getD 0 0).toNat:Int) && s.all fun c=>wn (c.toNat:Int)
theorem xM {x:Int} (h:128≤x):wn x=false:=by
 simp only [wn,mc,Bool.or_eq_false_iff,Bool.and_eq_false_iff,decide_eq_false_iff_not]
 omega
theorem zL {s:List UInt8} {L:List Blk} {K:AV→List Blk→Prop} (h:K (.bool (rq s)) L):ad Tryz.prog 62 [.str s] L K:=by
 have no:rq s=false→K (.bool false) L:=fun e=>by rw [← e];exact h
 replace no:=hid no
 replace h:=hid h
 refine ae yD (by simp [ut]) ?_
 simp only [ut,an]
 by_cases h0:s=[]
 · subst h0
   refine wk ?_
   exact aj (no.out rfl)
 have hlen:0<s.length:=List.length_pos_iff.2 h0
 by_cases h1:(32:Int)<(s.length:Int)
 · refine wk ?_
   exact aj (no.out (by simp [rq];omega))
 obtain ⟨c0,hc0⟩:∃ c,s.getD 0 0=c:=⟨_,rfl⟩
 have hr:=c0.toNat_lt
 have w0:IntKind.i32.wrap (c0.toNat:Int)=(c0.toNat:Int):=zI (by omega) (by omega)
 cases hl0:mc (c0.toNat:Int) with
 | false =>
   have kk1:=@hid _ @eE
   refine wk ?_
   refine aj (no.out ?_)
   simp only [rq,hc0,hl0,Bool.and_false,Bool.false_and]
 | true =>
   have kk1:=@hid _ @eE
   refine wk ?_
   refine ak (fun n T' L'=>∃ p,n=s.length - p∧p≤s.length∧Hid (∀ c∈s.take p,wn (c.toNat:Int)=true)∧T'=[(20,.ptr L.length 0)]∧L'=L++[.siter s p]) (CutS (b:=by simp)) ⟨0,rfl,Nat.zero_le _,hid (by simp),rfl,rfl⟩ ?_
   rintro _ _ _ ⟨p,rfl,hp,hall,rfl,rfl⟩
   by_cases hlt:p<s.length
   · obtain ⟨c,hc⟩:∃ c,s.getD p 0=c:=⟨_,rfl⟩
     have hmem:c∈s:=by rw [← hc];simp [hlt]
     have htk:s.take (p+1)=s.take p++[c]:=by rw [List.take_succ_eq_append_getElem hlt,← hc];simp [hlt]
     replace htk:=hid htk
     have bad:wn (c.toNat:Int)=false→K (.bool false) L:=fun e=>no.out (by
       have:(s.all fun c=>wn (c.toNat:Int))=false:=List.all_eq_false.2 ⟨c,hmem,by rw [e];simp⟩
       simp only [rq,this,Bool.and_false])
     replace bad:=hid bad
     by_cases ha:c.toNat<128
     · have hd:=Ax hlt (by rw [hc];exact ha)
       rw [hc] at hd
       obtain ⟨x,hx⟩:∃ x:Nat,c.toNat=x:=⟨_,rfl⟩
       rw [hx] at hd bad
       have hx':=hid hx
       clear hx hc hmem ha hr w0
       cases hxl:mc (x:Int) with
       | true =>
         have kk1:=@hid _ @eE
         refine wk ?_
         refine ap _ _ _ (by omega) (CutS (b:=by simp)) ⟨p+1,rfl,hlt,hid fun d hd'=>?_,rfl,rfl⟩
         rw [htk.out] at hd'
         rcases List.mem_append.1 hd' with h|h
         · exact hall.out d h
         · rw [List.mem_singleton.1 h,hx'.out,wn,hxl];rfl
       | false =>
         repeat' first
           | refine dR ?_
           | (first|refine db (by kernel_rfl) ?_|refine cg (by kernel_rfl) ?_|refine ch ?_|refine iq ?_|refine dM (fun _=>?_)|refine bj ?_|refine de ?_|refine eE ?_|refine aY (eE ⟨rfl,rfl⟩) (eE ⟨rfl,rfl⟩) ?_|refine aq (eE ⟨rfl,rfl⟩) ?_)
             refine sm ?_
           | (first|refine c7 (by kernel_rfl) ?_|refine dc ?_|refine dd ?_|refine dS (bi ?_))
             refine sl ?_
           | exact dN
           | first|apply dO|apply c8|apply dP|apply c9|apply dQ|apply da
           | refine cm ?_
           | first|refine ci rfl ?_|refine cj rfl ?_|refine aZ rfl ?_ ?_|refine cT rfl (fun _=>?_) (fun _=>?_)|refine cS rfl (fun _=>?_) (fun _=>?_)
           | ((first|refine aX (fun _=>?_) (fun _=>?_)|refine bh (fun _=>?_) (fun _=>?_))<;>try refine sm ?_)
           | refine And.intro trivial ?_
           | refine And.intro (by omega) ?_
           | refine bD rfl (fun _=>?_) (fun _=>?_)
           | refine And.intro ?_ ?_
         · rename_i hb
           refine aa rfl (bad.out ?_)
           simp only [wn,hxl,Bool.false_or,Bool.or_eq_false_iff,Bool.and_eq_false_iff,decide_eq_false_iff_not]
           omega
         · rename_i hb
           refine ap _ _ _ (by omega) (CutS (b:=by simp)) ⟨p+1,rfl,hlt,hid fun d hd'=>?_,rfl,rfl⟩
           rw [htk.out] at hd'
           rcases List.mem_append.1 hd' with h|h
           · exact hall.out d h
           · rw [List.mem_singleton.1 h,hx'.out]
             simp only [wn,hxl,Bool.false_or,Bool.or_eq_true,Bool.and_eq_true,decide_eq_true_eq]
             omega
     · have hh:=B2 hlt (by rw [hc];omega)
       obtain ⟨⟨x,wd⟩,hd⟩:∃ q,xb s p=q:=⟨_,rfl⟩
       rw [hd] at hh
       simp only at hh
       have bad':=hid (bad.out (xM (show (128:Int)≤(c.toNat:Int) by omega)))
       have hxl:mc (x:Int)=false:=by
         have:=xM (show (128:Int)≤(x:Int) by omega)
         simp only [wn,Bool.or_eq_false_iff] at this
         exact this.1.1
       have f1:¬ (x:Int)<48:=by omega
       have f2:(57:Int)<(x:Int):=by omega
       have f3:¬ (x:Int)=45:=by omega
       clear hc hmem hr w0
       have kk1:=@hid _ @eE
       refine wk ?_
       exact aa rfl bad'.out
   · have hke:p=s.length:=by omega
     subst hke
     have h':=h.out
     have e:rq s=true:=by
       have e1:(s.all fun c=>wn (c.toNat:Int))=true:=List.all_eq_true.2 fun c hcm=>hall.out c (by rw [List.take_length];exact hcm)
       simp only [rq,e1,hc0,hl0,Bool.and_true]
       simp;omega
     rw [e] at h'
     replace h':=hid h'
     clear e
     refine wk ?_
     exact aa rfl h'.out
set_option maxHeartbeats 8000000
set_option maxRecDepth 100000
abbrev Ava:=List UInt8×List UInt8
def mf (a:Ava):List AV:=[.str a.1,.str a.2]
def aS (r:List Ava):List AV:=r.flatMap mf
abbrev CL (r:List Ava) (cap:Option Nat):AV:=.sl (aS r) r.length cap
def tR (r:List Ava) (typ:List UInt8):Bool:=r.any fun a=>decide (aD a.1=aD typ)
theorem FC {a:Ava} {typ:List UInt8} {ip:Nat} (h1:(a.1.length:Int)≤100000) (h2:(typ.length:Int)≤100000) {L:List Blk} {K:AV→List Blk→Prop} (hL:L[ip]?=some (.cells [.str typ])) (h:K (.bool (decide (aD a.1=aD typ))) L) :
   ad Tryz.prog 92 [.agg (mf a),.ptr ip 0] L K:=by
 obtain ⟨t,v⟩:=a
 replace h:=hid h
 have hip:ip<L.length:=(List.getElem?_eq_some_iff.1 hL).1
 have g1:(L++[Blk.cells [.str t,.str v]])[ip]?=some (.cells [.str typ]):=by rw [List.getElem?_append_left hip];exact hL
 simp only [mf]
 refine ae xC (by simp [rK]) ?_
 simp only [rK,an]
 have kk1:=@hid _ (fun L K=>oV h1 (L:=L) (K:=K))
 have kk2:=@hid _ (fun L K=>oV h2 (L:=L) (K:=K))
 refine wk ?_
 exact aa rfl h.out
theorem cC (r:List Ava):(aS r).length=r.length * 2:=by
 induction r with
 | nil=>rfl
 | cons a r ih=>simp only [aS,List.flatMap_cons,List.length_append,mf,List.length_cons,List.length_nil] at ih ⊢;omega
theorem dv:∀ {r:List Ava} {k:Nat},k<r.length→((aS r).drop (k * 2)).take 2=mf (r.getD k ([],[]))
 | a::r,0,_=>rfl
 | a::r,k+1,h=>by
   have ih:=@dv r k (by simpa using h)
   rw [show (k+1) * 2=k * 2+1+1 by omega]
   simpa [aS,mf] using ih
theorem C8 {r:List Ava} {typ:List UInt8} {cap:Option Nat} {ip:Nat} (hn:r.length≤100000) (h1:∀ a∈r,(a.1.length:Int)≤100000) (h2:(typ.length:Int)≤100000) {L:List Blk} {K:AV→List Blk→Prop} (hL:L[ip]?=some (.cells [.str typ]))
   (hno:tR r typ=false→K (.int .i64 (-1)) L) (hyes:∀ k:Nat,tR r typ=true→K (.int .i64 k) L):ad Tryz.prog 112 [CL r cap,.func 92 [.ptr ip 0]] L K:=by
 replace hno:=hid hno
 replace hyes:=hid hyes
 replace h1:=hid h1
 refine ae dk (by simp [aR]) ?_
 simp only [aR,an]
 refine wk ?_
 refine ak (fun n T' L'=>∃ (k:Nat),n=r.length - k∧k≤r.length∧Hid (tR (r.take k) typ=false)∧T'=[(8,.int .i64 (k:Int)),(7,.int .i64 r.length),(0,CL r cap),(1,.func 92 [.ptr ip 0])]∧L=L') (CutS (b:=Nat.le_refl _)) ⟨0,rfl,Nat.zero_le _,hid rfl,rfl,rfl⟩ ?_
 rintro _ _ _ ⟨k,rfl,hk,hf,rfl,rfl⟩
 by_cases hlt:k<r.length
 · have g1:(k:Int)<(r.length:Int):=by omega
   have g2:IntKind.i64.wrap ((k:Int)+1)=(k:Int)+1:=af (by omega) (by omega)
   have e1:=dv hlt
   have e2:k * 2+2≤(aS r).length:=by rw [cC];omega
   obtain ⟨a,ha⟩:∃ a,r.getD k ([],[])=a:=⟨_,rfl⟩
   have ham:a∈r:=by rw [← ha];simp [hlt]
   have htk:r.take (k+1)=r.take k++[a]:=by rw [List.take_succ_eq_append_getElem hlt,← ha];simp [hlt]
   rw [ha] at e1
   have hs:tR (r.take (k+1)) typ=decide (aD a.1=aD typ):=by
     have:=hf.out
     simp only [tR] at this ⊢
     rw [htk,List.any_append,this];simp
   have hall:decide (aD a.1=aD typ)=true→tR r typ=true:=fun e=>List.any_eq_true.2 ⟨a,ham,e⟩
   replace hall:=hid hall
   replace hs:=hid hs
   replace htk:=hid htk
   have ha1:=hid (h1.out a ham)
   clear ha ham
   refine wk ?_
   refine FC ha1.out h2 hL ?_
   refine sk ?_
   cases hd:decide (aD a.1=aD typ) with
   | true =>
     have hy:=hid (hyes.out k (hall.out hd))
     replace hd:=hid hd
     refine wk ?_
     exact aj hy.out
   | false =>
     replace hd:=hid hd
     refine wk ?_
     exact ap _ _ _ (by omega) (CutS (b:=Nat.le_refl _)) ⟨k+1,rfl,hlt,hid (by rw [hs.out,hd.out]),rfl,rfl⟩
 · have hke:k=r.length:=by omega
   subst hke
   have g1:¬ (r.length:Int)<(r.length:Int):=by omega
   have hn':=hf.out
   rw [List.take_length] at hn'
   have hy:=hid (hno.out hn')
   clear hn'
   refine wk ?_
   exact aj hy.out
theorem zs {r:List Ava} {typ:List UInt8} {cap:Option Nat} {ip:Nat} (hn:r.length≤100000) (h1:∀ a∈r,(a.1.length:Int)≤100000) (h2:(typ.length:Int)≤100000) {L:List Blk} {K:AV→List Blk→Prop} (hL:L[ip]?=some (.cells [.str typ])) (h:K (.bool (tR r typ)) L) :
   ad Tryz.prog 91 [CL r cap,.func 92 [.ptr ip 0]] L K:=by
 replace h:=hid h
 refine ae cZ (by simp [aH]) ?_
 simp only [aH,an]
 refine wk ?_
 refine C8 hn h1 h2 hL (fun e=>?_) (fun k e=>?_)
 · have h':=h.out
   rw [e] at h'
   replace h':=hid h'
   refine sk ?_
   refine wk ?_
   exact aj h'.out
 · have h':=h.out
   rw [e] at h'
   replace h':=hid h'
   have g:(0:Int)≤(k:Int):=by omega
   refine sk ?_
   refine wk ?_
   exact aj h'.out
theorem EZ {r:List Ava} {typ:List UInt8} {cap:Option Nat} (hn:r.length≤100000) (h1:∀ a∈r,(a.1.length:Int)≤100000) (h2:(typ.length:Int)≤100000) {L:List Blk} {K:AV→List Blk→Prop} (h:K (.bool (tR r typ)) L) :
   ad Tryz.prog 63 [CL r cap,.str typ] L K:=by
 replace h:=hid h
 refine ae zt (by simp [xj]) ?_
 simp only [xj,an]
 refine wk ?_
 refine zs hn h1 h2 (by simp) ?_
 refine sk ?_
 refine wk ?_
 exact aa rfl h.out
set_option maxHeartbeats 8000000
set_option maxRecDepth 100000
theorem cR {a:List UInt8} {c:UInt8} {L:List Blk} {K:AV→List Blk→Prop} (h:K (.int .i64 (Lib.indexByte a c)) L):ad Tryz.prog 93 [.str a,.int .u8 c.toNat] L K :=
 gj Tryz.func93 rfl (by kernel_rfl) (fun w0 S0 E w vs hR hv=>by
   simp only [VRL,VR] at hv
   obtain ⟨_,_,rfl,rfl,_,_,rfl,rfl,rfl⟩:=hv
   exact (Tryz.strings_IndexByte ⟨⟨a⟩⟩ c.toNat w).mono fun e w' ⟨he,hw⟩=>⟨_,he,by simp [VR],by subst hw;exact PE.refl _⟩) h
theorem fq (a:List UInt8) (c:UInt8):(0≤Lib.indexByte a c)↔c∈a:=by
 induction a with
 | nil=>simp [Lib.indexByte]
 | cons b l ih =>
   have hge:=Lib.indexByte_ge l c
   unfold Lib.indexByte
   by_cases hb:b=c
   · simp [hb]
   · have e1:(b == c)=false:=by simpa using hb
     rw [e1]
     simp only [Bool.false_eq_true,if_false]
     have e2:c∈b::l↔c∈l:=by simp [Ne.symm hb]
     rw [e2,← ih]
     split
     · rename_i h;simp at h;omega
     · rename_i h;simp at h;omega
theorem bU (c d:UInt8):(c.toNat:Int)=(d.toNat:Int)↔c=d:=by
 constructor
 · intro h
   exact UInt8.toNat_inj.1 (by omega)
 · rintro rfl;rfl
def wrB (i n:Nat) (c:UInt8):List UInt8 :=
 if c=0 then [92,48,48] else if (i=0∧(c=32∨c=35))∨(i+1=n∧c=32)∨c∈[34,43,44,59,60,62,92] then [92,c] else [c]
def wrL (n:Nat):Nat→List UInt8→List UInt8
 | _,[]=>[]
 | i,c::s=>wrB i n c++wrL n (i+1) s
def iA (s:List UInt8):List UInt8:=wrL s.length 0 s
theorem DR (i n:Nat) (c:UInt8):(wrB i n c).length≤3:=by
 unfold wrB;split
 · simp
 · split<;>simp
theorem cU {s:List UInt8} (hs:s.length≤100000) {L:List Blk} {K:AV→List Blk→Prop} (h:K (.str (iA s)) L):ad Tryz.prog 66 [.str s] L K:=by
 replace h:=hid h
 have g0:IntKind.i64.wrap ((s.length:Int) - 1)=(s.length:Int) - 1:=af (by omega) (by omega)
 refine ae vU (by simp [kg]) ?_
 simp only [kg,an]
 refine wk ?_
 refine cJ (l:=[]) (n:=0) 3 1 rfl (Nat.zero_mul 1).symm ?_
 refine ak (fun n T' L'=>∃ (i m:Nat) (b:List UInt8),n=s.length - i∧i≤s.length∧m≤3 * i∧Hid (m=b.length∧b++wrL s.length i (s.drop i)=iA s)∧T'=[(10,.int .i64 (i:Int)),(9,.int .i64 s.length),(8,.sl (u8s s) s.length none),(3,.gsl (u8s b) m L.length 1),(0,.str s)]∧L'=L++[.spare m 1]) (CutS (b:=by simp)) ⟨0,0,[],rfl,Nat.zero_le _,by omega,hid ⟨rfl,rfl⟩,rfl,rfl⟩ ?_
 rintro _ _ _ ⟨i,m,b,rfl,hi,hm,hb,rfl,rfl⟩
 by_cases hlt:i<s.length
 · have g1:(i:Int)<(s.length:Int):=by omega
   have g2:IntKind.i64.wrap ((i:Int)+1)=(i:Int)+1:=af (by omega) (by omega)
   obtain ⟨c,hc⟩:∃ c,s.getD i 0=c:=⟨_,rfl⟩
   have g3:(u8s s).getD i .undef=.int .u8 c.toNat:=by rw [← hc];simp [u8s,hlt]
   have hdr:s.drop i=c::s.drop (i+1):=by rw [List.drop_eq_getElem_cons hlt,← hc];simp [hlt]
   have hb2:=hb.out.2
   rw [hdr] at hb2
   simp only [wrL] at hb2
   have g4:=jO
   have g5:(u8s s).length=s.length:=by simp [u8s]
   clear hc hdr
   replace hb2:=hid hb2
   repeat' first
     | refine dR ?_
     | (first|refine db (by kernel_rfl) ?_|refine cg (by kernel_rfl) ?_|refine ch ?_|refine iq ?_|refine dM (fun _=>?_)|refine bj ?_|refine de ?_|refine cR ?_|refine aY (cR ⟨rfl,rfl⟩) (cR ⟨rfl,rfl⟩) ?_|refine aq (cR ⟨rfl,rfl⟩) ?_)
       refine sm ?_
     | (first|refine c7 (by kernel_rfl) ?_|refine dc ?_|refine dd ?_|refine dS (bi ?_))
       refine sl ?_
     | exact dN
     | first|apply dO|apply c8|apply dP|apply c9|apply dQ|apply da
     | refine cm ?_
     | first|refine ci rfl ?_|refine cj rfl ?_|refine aZ rfl ?_ ?_|refine cT rfl (fun _=>?_) (fun _=>?_)|refine cS rfl (fun _=>?_) (fun _=>?_)
     | ((first|refine aX (fun _=>?_) (fun _=>?_)|refine bh (fun _=>?_) (fun _=>?_))<;>try refine sm ?_)
     | refine And.intro trivial ?_
     | refine And.intro (by omega) ?_
     | refine bD rfl (fun _=>?_) (fun _=>?_)
     | refine And.intro ?_ ?_
   · rfl
   · omega
   · rename_i h0
     have hc0:=(bU c 0).1 h0
     rw [show u8s b++AV.frzL (u8s [92,48,48])=u8s (b++[92,48,48]) by simp [u8s,AV.frzL,AV.frz]]
     refine ap _ _ _ (by omega) (CutL (b:=by simp)) ⟨i+1,m+3,b++[92,48,48],rfl,hlt,by omega,hid ⟨by simp [hb.out.1],?_⟩,rfl,rfl⟩
     rw [← hb2.out,wrB,if_pos hc0,List.append_assoc]
   · rename_i h0 h1
     have hc0:¬ c=0:=fun e=>h0 ((bU c 0).2 e)
     have hq:(i=0∧(c=32∨c=35))∨(i+1=s.length∧c=32)∨c∈[34,43,44,59,60,62,92]:=by
       rcases h1 with (⟨e1,e2⟩|⟨e1,e2⟩)|e
       · exact .inl ⟨by omega,e2.imp (bU c 32).1 (bU c 35).1⟩
       · exact .inr (.inl ⟨by omega,(bU c 32).1 e2⟩)
       · exact .inr (.inr ((fq _ _).1 e))
     rw [show u8s b++[AV.int IntKind.u8 92,AV.int IntKind.u8 (c.toNat:Int)]=u8s (b++[92,c]) by simp [u8s]]
     refine ap _ _ _ (by omega) (CutL (b:=by simp)) ⟨i+1,m+1+1,b++[92,c],rfl,hlt,by omega,hid ⟨by simp [hb.out.1],?_⟩,rfl,rfl⟩
     rw [← hb2.out,wrB,if_neg hc0,if_pos hq,List.append_assoc]
   · rename_i h0 h1
     have hc0:¬ c=0:=fun e=>h0 ((bU c 0).2 e)
     have hq:¬ ((i=0∧(c=32∨c=35))∨(i+1=s.length∧c=32)∨c∈[34,43,44,59,60,62,92]):=fun hq=>h1 (by
       rcases hq with ⟨e1,e2⟩|⟨e1,e2⟩|e
       · exact .inl (.inl ⟨by omega,e2.imp (bU c 32).2 (bU c 35).2⟩)
       · exact .inl (.inr ⟨by omega,(bU c 32).2 e2⟩)
       · exact .inr ((fq _ _).2 e))
     rw [show u8s b++[AV.int IntKind.u8 (c.toNat:Int)]=u8s (b++[c]) by simp [u8s]]
     refine ap _ _ _ (by omega) (CutL (b:=by simp)) ⟨i+1,m+1,b++[c],rfl,hlt,by omega,hid ⟨by simp [hb.out.1],?_⟩,rfl,rfl⟩
     rw [← hb2.out,wrB,if_neg hc0,if_neg hq,List.append_assoc]
 · have hke:i=s.length:=by omega
   subst hke
   have g1:¬ (s.length:Int)<(s.length:Int):=by omega
   have e1:=jO b
   have e2:=iC b
   have e:=hb.out.2
   rw [List.drop_length,wrL,List.append_nil] at e
   have h':=h.out
   rw [← e] at h'
   replace h':=hid h'
   clear e
   refine wk ?_
   exact aa rfl h'.out
set_option maxHeartbeats 8000000
set_option maxRecDepth 100000
abbrev rU:List UInt8:=[34,43,44,59,60,62,92,32,35,61]
def dw:List UInt8→Bool→List UInt8→Option (List UInt8×List UInt8×Bool)
 | b,bl,[]=>some (b,[], !bl)
 | b,bl,c::s=>if c=44∨c=43 then some (b,c::s, !bl)
   else if c≠92 then (if c=0∨c∈([34,59,60,62]:List UInt8)∨(b=[]∧(c=32∨c=35)) then none else dw (b++[c]) (decide (c=32)) s)
   else match s with
     | []=>none
     | d::s1=>if d∈rU then dw (b++[d]) false s1 else match s1 with
       | []=>none
       | e::s2=>match Ad d e with
         | none=>none
         | some x=>dw (b++[x]) false s2
def Bo (o:Option (List UInt8×List UInt8×Bool)):AV:=match o with
 | none=>.tup [.str [],.str [],.bool false]
 | some (v,r,f)=>.tup [.str v,.str r,.bool f]
theorem rR {b:List UInt8} {bl:Bool}:dw b bl []=some (b,[], !bl):=by rw [dw.eq_def]
theorem ua {b:List UInt8} {bl:Bool} {c:UInt8} {s:List UInt8} (h:c=44∨c=43):dw b bl (c::s)=some (b,c::s, !bl):=by rw [dw.eq_def];simp only [if_pos h]
theorem rp {b:List UInt8} {bl:Bool} {c:UInt8} {s:List UInt8} (h:¬ (c=44∨c=43)) (h2:c≠92):dw b bl (c::s)=if c=0∨c∈([34,59,60,62]:List UInt8)∨(b=[]∧(c=32∨c=35)) then none else dw (b++[c]) (decide (c=32)) s:=by
 rw [dw.eq_def];simp only [if_neg h,if_pos h2]
theorem xL {b:List UInt8} {bl:Bool}:dw b bl [92]=none:=by rw [dw.eq_def];rfl
theorem ub {b:List UInt8} {bl:Bool} {d:UInt8} {s:List UInt8} (h:d∈rU):dw b bl (92::d::s)=dw (b++[d]) false s:=by
 rw [dw.eq_def]
 simp only [show ¬ ((92:UInt8)=44∨(92:UInt8)=43) by decide,if_false,ne_eq,not_true_eq_false,if_pos h]
theorem xK {b:List UInt8} {bl:Bool} {d:UInt8} (h:¬ d∈rU):dw b bl [92,d]=none:=by
 rw [dw.eq_def]
 simp only [show ¬ ((92:UInt8)=44∨(92:UInt8)=43) by decide,if_false,ne_eq,not_true_eq_false,if_neg h]
theorem wi {b:List UInt8} {bl:Bool} {d e:UInt8} {s:List UInt8} (h:¬ d∈rU):dw b bl (92::d::e::s)=match Ad d e with|none=>none|some x=>dw (b++[x]) false s:=by
 rw [dw.eq_def]
 simp only [show ¬ ((92:UInt8)=44∨(92:UInt8)=43) by decide,if_false,ne_eq,not_true_eq_false,if_neg h]
theorem Dm {s:List UInt8} {i:Nat} (h:i<s.length):s.drop i=s.getD i 0::s.drop (i+1):=by
 rw [List.drop_eq_getElem_cons h];simp [h]
theorem DT {s:List UInt8} (hs:s.length≤100000) {L:List Blk} {K:AV→List Blk→Prop} (h:K (Bo (dw [] false s)) L):ad Tryz.prog 77 [.str s] L K:=by
 replace h:=hid h
 refine ae xB (by simp [rJ]) ?_
 simp only [rJ,an]
 refine wk ?_
 refine cJ (l:=[]) (n:=0) 5 1 rfl (Nat.zero_mul 1).symm ?_
 refine ak (fun n T' L'=>∃ (i m:Nat) (b:List UInt8) (bl:Bool),n=s.length - i∧i≤s.length∧m≤i∧Hid (m=b.length∧dw b bl (s.drop i)=dw [] false s)∧T'=[(7,.int .i64 (i:Int)),(6,.bool bl),(5,.gsl (u8s b) m L.length 1),(0,.str s)]∧L'=L++[.spare m 1]) (CutS (b:=by simp)) ⟨0,0,[],false,rfl,Nat.zero_le _,by omega,hid ⟨rfl,rfl⟩,rfl,rfl⟩ ?_
 rintro _ _ _ ⟨i,m,b,bl,rfl,hi,hm,hb,rfl,rfl⟩
 have e1:=jO b
 have e2:=iC b
 by_cases hlt:i<s.length
 · have g1:(i:Int)<(s.length:Int):=by omega
   have g2:IntKind.i64.wrap ((i:Int)+1)=(i:Int)+1:=af (by omega) (by omega)
   obtain ⟨c,hc⟩:∃ c,s.getD i 0=c:=⟨_,rfl⟩
   have hdr:=Dm hlt
   rw [hc] at hdr
   have hb2:=hb.out.2
   rw [hdr] at hb2
   have hds:(s.drop i).take (s.length - i)=s.drop i:=List.take_of_length_le (by simp)
   have hl1:(i:Int)≤(s.length:Int):=by omega
   by_cases hcc:c=44∨c=43
   · rw [ua hcc] at hb2
     have h':=h.out
     rw [← hb2] at h'
     simp only [Bo] at h'
     rw [← hdr] at h'
     replace h':=hid h'
     have k1:((c.toNat:Int)=44)∨((c.toNat:Int)=43):=hcc.imp (bU c 44).2 (bU c 43).2
     clear hb2 hcc hdr
     rcases k1 with k1|k1
     · refine wk ?_
       exact aa rfl h'.out
     · refine wk ?_
       exact aa rfl h'.out
   · have k1:¬ (c.toNat:Int)=44:=fun e=>hcc (.inl ((bU c 44).1 e))
     have k2:¬ (c.toNat:Int)=43:=fun e=>hcc (.inr ((bU c 43).1 e))
     by_cases h92:c=92
     · subst h92
       have g3:IntKind.i64.wrap ((i:Int)+2)=(i:Int)+2:=af (by omega) (by omega)
       have g4:IntKind.i64.wrap ((i:Int)+3)=(i:Int)+3:=af (by omega) (by omega)
       have g5:IntKind.i64.wrap ((i:Int)+1+1)=(i:Int)+1+1:=af (by omega) (by omega)
       have g6:IntKind.i64.wrap ((i:Int)+2+1)=(i:Int)+2+1:=af (by omega) (by omega)
       have t1:((i:Int)+1).toNat=i+1:=by omega
       have t3:((i:Int)+3).toNat=i+3:=by omega
       by_cases h1:i+1<s.length
       · have f1:(i:Int)+1<(s.length:Int):=by omega
         obtain ⟨d,hd⟩:∃ d,s.getD (i+1) 0=d:=⟨_,rfl⟩
         have hdr1:=Dm h1
         rw [hd] at hdr1
         rw [hdr1] at hb2
         by_cases hsp:d∈rU
         · rw [ub hsp] at hb2
           have f2:=(fq rU d).2 hsp
           clear hdr hdr1
           replace hb2:=hid hb2
           have kk1:=@hid _ @cR
           refine wk ?_
           rw [show u8s b++[AV.int IntKind.u8 (d.toNat:Int)]=u8s (b++[d]) by simp [u8s],show decide (((UInt8.toNat 92:Nat):Int)=32)=false from rfl]
           refine ap _ _ _ (by omega) (CutL (b:=by simp)) ⟨i+1+1,m+1,b++[d],false,rfl,h1,by omega,hid ⟨by simp [hb.out.1],hb2.out⟩,rfl,rfl⟩
         · have f2:¬ 0≤Lib.indexByte rU d:=fun e=>hsp ((fq rU d).1 e)
           by_cases h2:i+2<s.length
           · have f3:(i:Int)+2<(s.length:Int):=by omega
             have f4:(i:Int)+1≤(i:Int)+3:=by omega
             have f5:(i:Int)+3≤(s.length:Int):=by omega
             have f6:(0:Int)≤(i:Int)+1:=by omega
             obtain ⟨e,he⟩:∃ e,s.getD (i+2) 0=e:=⟨_,rfl⟩
             have hdr2:=Dm h2
             rw [he] at hdr2
             rw [hdr2,wi hsp] at hb2
             have hcut:(s.drop (i+1)).take (i+3 - (i+1))=[d,e]:=by
               rw [hdr1,hdr2,show i+3 - (i+1)=2 by omega];rfl
             clear hdr hdr1 hdr2
             replace hb2:=hid hb2
             have kk1:=@hid _ @cR
             refine wk ?_
             refine Co ?_
             rcases hx:Ad d e with _|x
             · rw [show ze d e=.tup [.str [],.bool false] by simp only [ze,hx]]
               have h':=h.out
               rw [← hb2.out,hx] at h'
               simp only [Bo] at h'
               replace h':=hid h'
               clear hx
               refine sk ?_
               refine wk ?_
               exact aa rfl h'.out
             · rw [show ze d e=.tup [.str [x],.bool true] by simp only [ze,hx]]
               have hb3:=hb2.out
               rw [hx] at hb3
               simp only at hb3
               replace hb3:=hid hb3
               have q1:[x].getD 0 0=x:=rfl
               clear hx hb2
               refine sk ?_
               refine wk ?_
               rw [show u8s b++[AV.int IntKind.u8 (x.toNat:Int)]=u8s (b++[x]) by simp [u8s],show decide (((UInt8.toNat 92:Nat):Int)=32)=false from rfl]
               refine ap _ _ _ (by omega) (CutL (b:=by simp)) ⟨i+2+1,m+1,b++[x],false,rfl,h2,by omega,hid ⟨by simp [hb.out.1],hb3.out⟩,rfl,rfl⟩
           · have f3:¬ (i:Int)+2<(s.length:Int):=by omega
             have hnil:s.drop (i+1+1)=[]:=List.drop_eq_nil_of_le (by omega)
             rw [hnil,xK hsp] at hb2
             have h':=h.out
             rw [← hb2] at h'
             replace h':=hid h'
             clear hdr hdr1 hb2
             have kk1:=@hid _ @cR
             refine wk ?_
             exact aa rfl h'.out
       · have f1:¬ (i:Int)+1<(s.length:Int):=by omega
         have f3:¬ (i:Int)+2<(s.length:Int):=by omega
         have hnil:s.drop (i+1)=[]:=List.drop_eq_nil_of_le (by omega)
         rw [hnil,xL] at hb2
         have h':=h.out
         rw [← hb2] at h'
         replace h':=hid h'
         clear hdr hb2
         have kk1:=@hid _ @cR
         refine wk ?_
         exact aa rfl h'.out
     · rw [rp hcc h92] at hb2
       have k3:¬ (c.toNat:Int)=92:=fun e=>h92 ((bU c 92).1 e)
       clear hdr
       replace hb2:=hid hb2
       repeat' first
         | refine dR ?_
         | (first|refine db (by kernel_rfl) ?_|refine cg (by kernel_rfl) ?_|refine ch ?_|refine iq ?_|refine dM (fun _=>?_)|refine bj ?_|refine de ?_|refine cR ?_|refine aY (cR ⟨rfl,rfl⟩) (cR ⟨rfl,rfl⟩) ?_|refine aq (cR ⟨rfl,rfl⟩) ?_)
           refine sm ?_
         | (first|refine c7 (by kernel_rfl) ?_|refine dc ?_|refine dd ?_|refine dS (bi ?_))
           refine sl ?_
         | exact dN
         | first|apply dO|apply c8|apply dP|apply c9|apply dQ|apply da
         | refine cm ?_
         | first|refine ci rfl ?_|refine cj rfl ?_|refine aZ rfl ?_ ?_|refine cT rfl (fun _=>?_) (fun _=>?_)|refine cS rfl (fun _=>?_) (fun _=>?_)
         | ((first|refine aX (fun _=>?_) (fun _=>?_)|refine bh (fun _=>?_) (fun _=>?_))<;>try refine sm ?_)
         | refine And.intro trivial ?_
         | refine And.intro (by omega) ?_
         | refine bD rfl (fun _=>?_) (fun _=>?_)
         | refine And.intro ?_ ?_
       · rename_i hx
         have hbad:c=0∨c∈([34,59,60,62]:List UInt8)∨(b=[]∧(c=32∨c=35)):=by
           rcases hx with (e|e)|⟨e,e'⟩
           · exact .inl ((bU c 0).1 e)
           · exact .inr (.inl ((fq _ _).1 e))
           · refine .inr (.inr ⟨List.length_eq_zero_iff.1 ?_,e'.imp (bU c 32).1 (bU c 35).1⟩)
             have:=hb.out.1;omega
         have h':=h.out
         rw [← hb2.out,if_pos hbad] at h'
         exact aa rfl h'
       · rename_i hx
         have hbad:¬ (c=0∨c∈([34,59,60,62]:List UInt8)∨(b=[]∧(c=32∨c=35))):=fun e=>hx (by
           rcases e with e|e|⟨e,e'⟩
           · exact .inl (.inl ((bU c 0).2 e))
           · exact .inl (.inr ((fq _ _).2 e))
           · refine .inr ⟨?_,e'.imp (bU c 32).2 (bU c 35).2⟩
             have:=hb.out.1;rw [e] at this;simp at this;omega)
         have hc32:decide ((c.toNat:Int)=32)=decide (c=32):=by
           have:=bU c 32
           simp only [decide_eq_decide];exact this
         rw [show u8s b++[AV.int IntKind.u8 (c.toNat:Int)]=u8s (b++[c]) by simp [u8s],hc32]
         refine ap _ _ _ (by omega) (CutL (b:=by simp)) ⟨i+1,m+1,b++[c],decide (c=32),rfl,hlt,by omega,hid ⟨by simp [hb.out.1],?_⟩,rfl,rfl⟩
         rw [← hb2.out,if_neg hbad]
 · have hke:i=s.length:=by omega
   subst hke
   have g1:¬ (s.length:Int)<(s.length:Int):=by omega
   have h':=h.out
   rw [← hb.out.2,List.drop_length,rR] at h'
   simp only [Bo] at h'
   replace h':=hid h'
   have hds:(s.drop s.length).take (s.length - s.length)=[]:=by simp
   refine wk ?_
   exact aa rfl h'.out
set_option maxHeartbeats 8000000
set_option maxRecDepth 100000
def rD:List UInt8→Option (List UInt8×List UInt8)
 | []=>none
 | c::s=>if c=61 then some ([],s) else match rD s with
   | none=>none
   | some (a,b)=>some (c::a,b)
theorem xd:∀ s:List UInt8,(Lib.indexByte s 61=-1∧rD s=none)∨∃ n:Nat,n<s.length∧Lib.indexByte s 61=(n:Int)∧rD s=some (s.take n,s.drop (n+1))
 | []=>.inl ⟨rfl,rfl⟩
 | c::s=>by
   by_cases hc:c=61
   · subst hc
     exact .inr ⟨0,by simp,by simp [Lib.indexByte],by simp [rD]⟩
   · have e1:(c == 61)=false:=by simpa using hc
     unfold Lib.indexByte
     rw [e1]
     simp only [Bool.false_eq_true,if_false,rD,if_neg hc]
     rcases xd s with ⟨h1,h2⟩|⟨n,h0,h1,h2⟩
     · exact .inl ⟨by rw [h1];rfl,by rw [h2]⟩
     · refine .inr ⟨n+1,by simp;omega,?_,by rw [h2];simp⟩
       rw [h1]
       have:((n:Int) == -1)=false:=by simp
       rw [this];simp
def xc (s:List UInt8):AV:=match rD s with
 | some (a,b)=>.tup [.str a,.str b,.bool true]
 | none=>.tup [.str s,.str [],.bool false]
theorem zd {a:List UInt8} {c:UInt8} {L:List Blk} {K:AV→List Blk→Prop} (h:K (.int .i64 (Lib.indexByte a c)) L):ad Tryz.prog 127 [.str a,.str [c]] L K :=
 gj Tryz.func127 rfl (by kernel_rfl) (fun w0 S0 E w vs hR hv=>by
   simp only [VRL,VR] at hv
   obtain ⟨_,_,rfl,rfl,_,_,rfl,rfl,rfl⟩:=hv
   exact (Tryz.stringslite_Index_one ⟨⟨a⟩⟩ c w).mono fun e w' ⟨he,hw⟩=>⟨_,he,by simp [VR],by subst hw;exact PE.refl _⟩) h
theorem Dp {s:List UInt8} (hs:s.length≤100000) {L:List Blk} {K:AV→List Blk→Prop} (h:K (xc s) L):ad Tryz.prog 100 [.str s,.str [61]] L K:=by
 have hl:[(61:UInt8)].length=1:=rfl
 rcases xd s with ⟨h1,h2⟩|⟨n,h0,h1,h2⟩
 · simp only [xc,h2] at h
   replace h:=hid h
   clear h2
   refine ae cE (by simp [aG]) ?_
   simp only [aG,an]
   have kk1:=@hid _ @zd
   refine wk ?_
   exact aj h.out
 · simp only [xc,h2] at h
   replace h:=hid h
   have g1:(0:Int)≤(n:Int):=by omega
   have g2:IntKind.i64.wrap ((n:Int)+1)=(n:Int)+1:=af (by omega) (by omega)
   have g3:(n:Int)≤(s.length:Int):=by omega
   have g4:(n:Int)+1≤(s.length:Int):=by omega
   have g5:(0:Int)≤(n:Int)+1:=by omega
   have g6:((n:Int)+1).toNat=n+1:=by omega
   have g7:(s.drop (n+1)).take (s.length - (n+1))=s.drop (n+1):=List.take_of_length_le (by simp)
   clear h2
   refine ae cE (by simp [aG]) ?_
   simp only [aG,an]
   have kk1:=@hid _ @zd
   refine wk ?_
   exact aj h.out
theorem Gc {s:List UInt8} (hs:s.length≤100000) {L:List Blk} {K:AV→List Blk→Prop} (h:K (xc s) L):ad Tryz.prog 76 [.str s,.str [61]] L K:=by
 rcases hc:rD s with _|⟨a,b⟩
 all_goals
   simp only [xc,hc] at h
   replace h:=hid h
 · refine ae jJ (by simp [du]) ?_
   simp only [du,an]
   refine wk ?_
   refine Dp hs ?_
   simp only [xc,hc]
   refine sk ?_
   refine wk ?_
   exact aj h.out
 · refine ae jJ (by simp [du]) ?_
   simp only [du,an]
   refine wk ?_
   refine Dp hs ?_
   simp only [xc,hc]
   refine sk ?_
   refine wk ?_
   exact aj h.out
abbrev Rdn:=List Ava
abbrev aC (r:Rdn):AV:=CL r none
def vK:Nat→List Rdn→Rdn→List UInt8→List Rdn×Int
 | 0,_,_,_=>([],4)
 | f+1,out,now,s=>if out.length=32∨now.length=8 then ([],9) else match rD s with
   | none=>([],4)
   | some (typ,rest)=>if rq typ=false then ([],4) else if tR now typ=true then ([],21) else match dw [] false rest with
     | none=>([],4)
     | some (v,r2,ok)=>if ok=false then ([],4) else match r2 with
       | []=>(out++[now++[(typ,v)]],0)
       | c::s'=>if c=44 then vK f (out++[now++[(typ,v)]]) [] s' else vK f out (now++[(typ,v)]) s'
def dT (s:List UInt8):List Rdn×Int:=if 4096<s.length then ([],5) else if s=[] then ([],0) else vK (s.length+1) [] [] s
def Fp (p:List Rdn×Int):AV:=.tup [.sl (p.1.map aC) p.1.length none,.int .i64 p.2]
theorem zq:∀ {s a b:List UInt8},rD s=some (a,b)→b.length<s.length∧a.length≤s.length
 | [],a,b,h=>by simp [rD] at h
 | c::s,a,b,h=>by
   simp only [rD] at h
   split at h
   · simp only [Option.some.injEq,Prod.mk.injEq] at h
     obtain ⟨rfl,rfl⟩:=h
     simp
   · split at h
     · cases h
     · rename_i a' b' hc
       simp only [Option.some.injEq,Prod.mk.injEq] at h
       obtain ⟨rfl,rfl⟩:=h
       have:=zq hc
       simp;omega
theorem Cn:∀ (n:Nat) {s b:List UInt8} {bl:Bool} {v r:List UInt8} {ok:Bool},s.length≤n→dw b bl s=some (v,r,ok)→r.length≤s.length:=by
 intro n
 induction n with
 | zero =>
   intro s b bl v r ok hn h
   obtain rfl:=List.length_eq_zero_iff.1 (Nat.le_zero.1 hn)
   rw [rR] at h;cases h;simp
 | succ n ih =>
   intro s b bl v r ok hn h
   cases s with
   | nil=>rw [rR] at h;cases h;simp
   | cons c s =>
     simp only [List.length_cons] at hn
     by_cases hc:c=44∨c=43
     · rw [ua hc] at h;cases h;simp
     by_cases h92:c=92
     · subst h92
       cases s with
       | nil=>rw [xL] at h;cases h
       | cons d s =>
         by_cases hd:d∈rU
         · rw [ub hd] at h
           have:=ih (by simp at hn;omega) h
           simp;omega
         · cases s with
           | nil=>rw [xK hd] at h;cases h
           | cons e s =>
             rw [wi hd] at h
             split at h
             · cases h
             · have:=ih (by simp at hn;omega) h
               simp;omega
     · rw [rp hc h92] at h
       split at h
       · cases h
       · have:=ih (by omega) h
         simp;omega
section
variable {P:Program} {N:Nat} {own:Nat→Nat→Nat} {Q:Exit→Tm→List Blk→Prop} {T:Tm} {L:List Blk}
theorem EN {lc:bd} (t sz B:Nat) {l:List AV} {n:Nat} {v:AV} (ht:ah T t=some v) (hB:B<L.length) (hv:(v=.sl [] 0 (some 0)∧l=[]∧n=0)∨∃ i,B<i∧v=.gsl l n i sz∧L[i]?=some (.spare n sz))
   (h:∀ i X,B<i→(L++X)[i]?=some (.spare n sz)→AW P N own lc Q ((t,.gsl l n i sz)::T) (L++X)):AW P N own lc Q T L:=by
 rcases hv with ⟨rfl,rfl,rfl⟩|⟨i,hBi,rfl,hi⟩
 · exact cJ t sz ht (by simp) (h L.length [.spare 0 sz] hB (by simp))
 · have h':=h i [] hBi (by simpa using hi)
   rw [List.append_nil] at h'
   refine h'.weakT fun t' v' e=>?_
   simp only [ah] at e
   split at e
   · rename_i e1;subst e1;cases e;exact ht
   · exact e
end
set_option maxHeartbeats 8000000
set_option maxRecDepth 100000
def Gs (B:Nat) (r:Rdn) (v:AV) (L:List Blk):Prop:=(v=.sl [] 0 (some 0)∧aS r=[]∧r.length=0)∨∃ i,B<i∧v=.gsl (aS r) r.length i 2∧L[i]?=some (.spare r.length 2)
theorem B9 (r:Rdn) (t v:List UInt8):aS (r++[(t,v)])=aS r++[.str t,.str v]:=by simp [aS,mf]
theorem jL (r:Rdn):AV.frzL (aS r)=aS r:=by
 induction r with
 | nil=>rfl
 | cons a r ih=>simpa [aS,mf,AV.frzL,AV.frz] using ih
theorem j4 {L0 X:List Blk} {e:Int} {K:AV→List Blk→Prop} (h:K (Fp ([],e)) L0):Fin L0 (.tup [.sl [] 0 (some 0),.int .i64 e]) (L0++X) K:=au (aa rfl h)
theorem bm (d:List Rdn):AV.frzL (d.map aC)=d.map aC:=by
 rw [AV.frzL_eq,List.map_map]
 refine List.map_congr_left fun r _=>?_
 simp only [Function.comp,AV.frz,jL]
theorem B8 (q:Nat→Bool) (r:Rdn):AV.refsL q (aS r)=true:=by
 induction r with
 | nil=>rfl
 | cons a r ih=>simpa [aS,mf,AV.refsL,AV.refs] using ih
theorem cW (q:Nat→Bool):∀ d:List Rdn,AV.refsL q (d.map aC)=true
 | []=>rfl
 | r::d=>by simp only [List.map_cons,AV.refsL,AV.refs,B8,cW q d,Bool.and_self]
theorem wm {s:List UInt8} (h:rq s=true):s.length≤32:=by
 simp only [rq,Bool.and_eq_true,decide_eq_true_eq] at h
 exact h.1.1.2
theorem FB {r:Rdn} {typ:List UInt8} {i n:Nat} (hr:r.length=n) (hn:n≤8) (h1:∀ a∈r,a.1.length≤32) (h2:typ.length≤4096) {L:List Blk} {K:AV→List Blk→Prop} (h:K (.bool (tR r typ)) L) :
   ad Tryz.prog 63 [.gsl (aS r) n i 2,.str typ] L K:=by
 subst hr
 exact fu (by simpa only [AV.frzL,AV.frz,jL] using EZ (cap:=none) (by omega) (fun a ha=>by have:=h1 a ha;omega) (by omega) h)
theorem AY {s:List UInt8} {L:List Blk} {K:AV→List Blk→Prop} (h:K (Fp (dT s)) L):ad Tryz.prog 52 [.str s] L K:=by
 refine ae xF (by simp [rN]) ?_
 simp only [rN,an]
 by_cases h1:4096<s.length
 · have f1:(4096:Int)<(s.length:Int):=by omega
   rw [dT,if_pos h1] at h
   replace h:=hid h
   clear h1
   refine wk ?_
   exact au (aj h.out)
 have f1:¬ (4096:Int)<(s.length:Int):=by omega
 rw [dT,if_neg h1] at h
 by_cases h2:s=[]
 · rw [if_pos h2] at h
   replace h:=hid h
   refine wk ?_
   exact au (aj h.out)
 rw [if_neg h2] at h
 replace h:=hid h
 have hs:=hid (show s.length≤4096 by omega)
 clear h1
 obtain ⟨R,hR⟩:∃ R,vK (s.length+1) [] [] s=R:=⟨_,rfl⟩
 rw [hR] at h
 refine wk ?_
 refine cJ (l:=[]) (n:=0) 4 1 rfl (Nat.zero_mul 1).symm ?_
 refine ak (fun n T' L'=>∃ (f m:Nat) (out:List Rdn) (now:Rdn) (u:List UInt8) (v:AV) (X:List Blk),f=n∧u.length≤4096∧m=out.length∧m≤32∧now.length≤8∧Hid (u.length<f∧vK f out now u=R∧(∀ a∈now,a.1.length≤32)∧Gs L.length now v L')∧L'[L.length]?=some (.spare m 1)∧T'=[(5,v),(4,.gsl (out.map aC) m L.length 1),(0,.str u)]∧L'=L++X) (CutS (b:=by simp)) ⟨s.length+1,0,[],[],s,_,[.spare 0 1],rfl,hs.out,rfl,by omega,by simp,hid ⟨by omega,hR,by simp,.inl ⟨rfl,rfl,rfl⟩⟩,by simp,rfl,rfl⟩ ?_
 clear h2
 clear hs
 rintro _ _ _ ⟨f,m,out,now,u,v,X,rfl,hu,hm,hm32,hn8,hI,ho,rfl,rfl⟩
 obtain ⟨hf,hp,ht,hv⟩:=hI.out
 clear hI
 clear hR
 obtain ⟨f,rfl⟩:∃ g,f=g+1:=⟨f - 1,by omega⟩
 have hB:L.length<(L++X).length:=(List.getElem?_eq_some_iff.1 ho).1
 refine EN 5 2 L.length rfl hB hv fun i Y hBi hi=>?_
 rw [List.append_assoc] at hi ⊢
 have ho2:(L++(X++Y))[L.length]?=some (.spare m 1):=by rw [← List.append_assoc,List.getElem?_append_left hB];exact ho
 generalize X++Y=Z at hi ho2 ⊢
 clear ho hB hv
 have s5:∀ A,(L++Z).set i A=L++Z.set (i - L.length) A:=fun A=>List.set_append_right _ _ (by omega)
 have s4:∀ (W:List Blk) A,(L++W).set L.length A=L++W.set 0 A:=fun W A=>by rw [List.set_append_right _ _ (Nat.le_refl _),Nat.sub_self]
 have hz:i - L.length≠0:=by omega
 have s54:∀ A,(L++Z.set (i - L.length) A)[L.length]?=some (.spare m 1):=fun A=>by rw [← s5,List.getElem?_set_ne (by omega)];exact ho2
 have s55:∀ A,(L++Z.set (i - L.length) A)[i]?=some A:=fun A=>by rw [← s5,List.getElem?_set,if_pos rfl,if_pos (List.getElem?_eq_some_iff.1 hi).1]
 have hul:=hu
 obtain ⟨c,hc⟩:∃ c:Nat,now.length=c:=⟨_,rfl⟩
 rw [vK] at hp
 rw [hc] at hp hi hn8 ⊢
 by_cases hlim:out.length=32∨c=8
 · rw [if_pos hlim] at hp
   have h':=h.out
   rw [← hp] at h'
   replace h':=hid h'
   have k:(m:Int)=32∨(m:Int)≠32∧(c:Int)=8:=by omega
   clear hp hlim
   clear hm
   rcases k with k|⟨k,k'⟩
   · refine wk ?_
     exact j4 h'.out
   · refine wk ?_
     exact j4 h'.out
 rw [if_neg hlim] at hp
 have k1:¬ (m:Int)=32:=by omega
 have k2:¬ (c:Int)=8:=by omega
 replace hm:=hid hm
 clear hlim
 replace hp:=hid hp
 replace ht:=hid ht
 refine wk ?_
 refine Gc (by omega) ?_
 rcases hcut:rD u with _|⟨typ,rest⟩
 · rw [show xc u=.tup [.str u,.str [],.bool false] by simp only [xc,hcut]]
   have h':=h.out
   rw [← hp.out,hcut] at h'
   simp only at h'
   replace h':=hid h'
   refine sk ?_
   refine wk ?_
   exact j4 h'.out
 rw [show xc u=.tup [.str typ,.str rest,.bool true] by simp only [xc,hcut]]
 have hp2:=hp.out
 rw [hcut] at hp2
 simp only at hp2
 have hlen:=zq hcut
 replace hp2:=hid hp2
 clear hcut hp
 refine sk ?_
 cases hty:rq typ with
 | false =>
   have h':=h.out
   rw [← hp2.out,if_pos hty] at h'
   replace h':=hid h'
   have kk1:=@hid _ @zL
   refine wk ?_
   exact j4 h'.out
 | true =>
   have hp3:=hp2.out
   rw [if_neg (by rw [hty];simp)] at hp3
   replace hp3:=hid hp3
   clear hp2
   have kk1:=@hid _ @zL
   refine wk ?_
   refine FB hc hn8 ht.out (by omega) ?_
   cases hha:tR now typ with
   | true =>
     have h':=h.out
     rw [← hp3.out,if_pos hha] at h'
     replace h':=hid h'
     refine sk ?_
     refine wk ?_
     exact j4 h'.out
   | false =>
     have hp4:=hp3.out
     rw [if_neg (by rw [hha];simp)] at hp4
     replace hp4:=hid hp4
     clear hp3
     refine sk ?_
     refine wk ?_
     refine DT (by omega) ?_
     rcases hvl:dw [] false rest with _|⟨w,r2,okk⟩
     · have h':=h.out
       rw [← hp4.out,hvl] at h'
       simp only at h'
       replace h':=hid h'
       simp only [Bo]
       refine sk ?_
       refine wk ?_
       exact j4 h'.out
     · have hp5:=hp4.out
       rw [hvl] at hp5
       simp only at hp5
       have hl2:=Cn _ (Nat.le_refl _) hvl
       replace hp5:=hid hp5
       clear hp4 hvl
       simp only [Bo]
       refine sk ?_
       cases okk with
       | false =>
         have h':=h.out
         rw [← hp5.out,if_pos rfl] at h'
         replace h':=hid h'
         refine wk ?_
         exact j4 h'.out
       | true =>
         have hp6:=hp5.out
         rw [if_neg (by simp)] at hp6
         replace hp6:=hid hp6
         clear hp5
         have q1:(c+1) * 32≤140737488355328:=by omega
         have q2:c+1≤140737488355328:=by omega
         have q3:(m+1) * 24≤140737488355328:=by omega
         have q4:m+1≤140737488355328:=by omega
         have e1:aS now++[AV.str typ,AV.str w]=aS (now++[(typ,w)]):=(B9 _ _ _).symm
         have e2:out.map aC++[AV.sl (AV.frzL (aS now++[AV.str typ,AV.str w])) (c+1) none]=(out++[now++[(typ,w)]]).map aC:=by
           rw [e1,jL,List.map_append]
           simp [hc]
         have e3:(out++[now++[(typ,w)]]).length=m+1:=by simp [hm.out]
         have e4:(now++[(typ,w)]).length=c+1:=by simp [hc]
         have e5:∀ a∈now++[(typ,w)],a.1.length≤32:=fun a ha=>by
           rcases List.mem_append.1 ha with h|h
           · exact ht.out a h
           · rw [List.mem_singleton.1 h];exact wm hty
         replace e1:=hid e1
         replace e2:=hid e2
         replace e3:=hid e3
         replace e4:=hid e4
         replace e5:=hid e5
         cases r2 with
         | nil =>
           have h':=h.out
           rw [← hp6.out] at h'
           simp only at h'
           replace h':=hid h'
           refine wk ?_
           rw [e2.out]
           refine au (aa ?_ ?_)
           · simp only [AV.frz,AV.frzL,bm,AV.refs,AV.refsL,cW,Bool.and_self]
           · simp only [AV.frz,AV.frzL,bm]
             have:=h'.out
             simp only [Fp,e3.out] at this
             exact this
         | cons x s' =>
           simp only at hp6
           have q5:¬ (x::s'=[]):=by simp
           have q7:((s'.length:Int)+1).toNat - 1=s'.length:=by omega
           have q8:s'.take (((s'.length:Int)+1).toNat - 1)=s':=by rw [q7,List.take_length]
           simp only [List.length_cons] at hl2
           clear q7
           replace q8:=hid q8
           by_cases hx:x=44
           · subst hx
             refine wk ?_
             rw [q8.out,e2.out]
             refine ap _ _ _ ?_ (CutS (b:=?_)) ⟨f,m+1,out++[now++[(typ,w)]],[],s',.sl [] 0 (some 0),_,rfl,by omega,e3.out.symm,by omega,by simp,hid ⟨by omega,?_,by simp,.inl ⟨rfl,rfl,rfl⟩⟩,?_,rfl,rfl⟩
             · omega
             · have:=(List.getElem?_eq_some_iff.1 ho2).1
               simp at this ⊢;omega
             · rw [← hp6.out,if_pos rfl]
             · have:=(List.getElem?_eq_some_iff.1 ho2).1
               rw [← s4,List.getElem?_set,if_pos rfl,if_pos (by simp at this ⊢;omega)]
           · have q6:¬ (x.toNat:Int)=44:=fun e=>hx ((bU x 44).1 e)
             refine wk ?_
             rw [q8.out,e1.out]
             refine ap _ _ _ ?_ (CutS (b:=?_)) ⟨f,m,out,now++[(typ,w)],s',.gsl (aS (now++[(typ,w)])) (c+1) i 2,_,rfl,by omega,hm.out,hm32,by rw [e4.out];omega,hid ⟨by omega,?_,e5.out,.inr ⟨i,hBi,by rw [e4.out],by rw [e4.out];exact s55 _⟩⟩,s54 _,rfl,rfl⟩
             · omega
             · have:=(List.getElem?_eq_some_iff.1 ho2).1
               simp at this ⊢;omega
             · rw [← hp6.out,if_neg hx]
set_option maxHeartbeats 8000000
set_option maxRecDepth 100000
def d7:Rdn→Rdn→Int
 | _,[]=>0
 | done,a::t=>if done.length=8 then 9 else if rq a.1=false then 20 else if tR done a.1=true then 21 else d7 (done++[a]) t
def pn:Nat→List Rdn→Int
 | _,[]=>0
 | i,r::t=>if i=32 then 9 else if r=[] then 2 else if d7 [] r≠0 then d7 [] r else pn (i+1) t
theorem ir {d:List Rdn} {k:Nat} (h:k<d.length):(d.map aC).getD k .undef=aC (d.getD k []):=by simp [h]
theorem B7 {r:Rdn} {k:Nat}:(aS r).take (k * 2)=aS (r.take k):=by
 induction r generalizing k with
 | nil=>simp [aS]
 | cons a r ih =>
   cases k with
   | zero=>simp [aS]
   | succ k =>
     have:=@ih k
     simp only [aS] at this
     rw [show (k+1) * 2=k * 2+1+1 by omega]
     simp [aS,mf,this]
theorem FA {r:Rdn} {typ:List UInt8} {n:Nat} {cap:Option Nat} (hr:r.length=n) (hn:n≤8) (h1:∀ a∈r,a.1.length≤32) (h2:typ.length≤32) {L:List Blk} {K:AV→List Blk→Prop} (h:K (.bool (tR r typ)) L) :
   ad Tryz.prog 63 [.sl (aS r) n cap,.str typ] L K:=by
 subst hr
 exact EZ (by omega) (fun a ha=>by have:=h1 a ha;omega) (by omega) h
theorem Ez {d:List Rdn} {cap:Option Nat} (hn:d.length≤1100000) (hr:∀ r∈d,r.length≤1100000) {L:List Blk} {K:AV→List Blk→Prop} (h:K (.int .i64 (pn 0 d)) L):ad Tryz.prog 41 [.sl (d.map aC) d.length cap] L K:=by
 replace h:=hid h
 have hat:=hid (fun k=>@ir d k)
 replace hr:=hid hr
 refine ae xD (by simp [rL]) ?_
 simp only [rL,an]
 refine wk ?_
 refine ak (fun n T' L'=>∃ (i:Nat) (X:List Blk),n=d.length - i∧i≤d.length∧i≤32∧Hid (pn i (d.drop i)=pn 0 d)∧T'=[(9,.int .i64 (i:Int)),(8,.int .i64 d.length),(7,.sl (d.map aC) d.length cap)]∧L'=L++X) (CutS (b:=by simp)) ⟨0,[],rfl,Nat.zero_le _,by omega,hid rfl,rfl,by simp⟩ ?_
 rintro _ _ _ ⟨i,X,rfl,hi,hi32,he,rfl,rfl⟩
 by_cases hlt:i<d.length
 · have g1:(i:Int)<(d.length:Int):=by omega
   have g2:IntKind.i64.wrap ((i:Int)+1)=(i:Int)+1:=af (by omega) (by omega)
   have e2:=hat.out i hlt
   have hrl:=hr.out (d.getD i []) (by rw [List.getD_eq_getElem?_getD,List.getElem?_eq_getElem hlt];exact List.getElem_mem _)
   obtain ⟨r,hri⟩:∃ r,d.getD i []=r:=⟨_,rfl⟩
   have hdr:d.drop i=r::d.drop (i+1):=by rw [List.drop_eq_getElem_cons hlt,← hri];simp [hlt]
   rw [hri] at e2 hrl
   have he2:=he.out
   rw [hdr,pn] at he2
   clear hdr hri
   by_cases h32:i=32
   · rw [if_pos h32] at he2
     have h':=h.out
     rw [← he2] at h'
     replace h':=hid h'
     have k1:(i:Int)=32:=by omega
     have g1':(32:Int)<(d.length:Int):=by omega
     clear h32 he2
     refine wk ?_
     exact aa rfl h'.out
   rw [if_neg h32] at he2
   have k1:¬ (i:Int)=32:=by omega
   by_cases hr0:r=[]
   · rw [if_pos hr0] at he2
     subst hr0
     have h':=h.out
     rw [← he2] at h'
     replace h':=hid h'
     clear h32 he2
     refine wk ?_
     exact aa rfl h'.out
   rw [if_neg hr0] at he2
   have k2:¬ (r.length:Int)=0:=by have:=List.length_pos_iff.2 hr0;omega
   have herr:∀ e:Int,d7 [] r=e→e≠0→K (.int .i64 e) L:=fun e a1 a2=>by
     rw [if_pos (by rw [a1];exact a2),a1] at he2
     rw [he2];exact h.out
   replace herr:=hid herr
   replace he2:=hid he2
   clear h32
   refine wk ?_
   refine ak (fun n T' L'=>∃ (k:Nat) (Y:List Blk),n=r.length - k∧k≤r.length∧k≤8∧Hid (d7 (r.take k) (r.drop k)=d7 [] r∧∀ a∈r.take k,a.1.length≤32)∧T'=[(23,.int .i64 (k:Int)),(22,.int .i64 r.length),(21,aC r),(4,aC r),(9,.int .i64 (i:Int)),(8,.int .i64 d.length),(7,.sl (d.map aC) d.length cap)]∧L'=L++(X++Y)) (CutS (b:=by simp)) ⟨0,[],rfl,Nat.zero_le _,by omega,hid ⟨rfl,by simp⟩,rfl,by simp⟩ ?_
   rintro _ _ _ ⟨k,Y,rfl,hk,hk8,hrow,rfl,rfl⟩
   by_cases hkl:k<r.length
   · have g3:(k:Int)<(r.length:Int):=by omega
     have g4:IntKind.i64.wrap ((k:Int)+1)=(k:Int)+1:=af (by omega) (by omega)
     have e3:=dv hkl
     have e4:k * 2+2≤(aS r).length:=by rw [cC];omega
     obtain ⟨⟨ty,va⟩,ha⟩:∃ a,r.getD k ([],[])=a:=⟨_,rfl⟩
     have hdk:r.drop k=(ty,va)::r.drop (k+1):=by rw [List.drop_eq_getElem_cons hkl,← ha];simp [hkl]
     have htk:r.take (k+1)=r.take k++[(ty,va)]:=by rw [List.take_succ_eq_append_getElem hkl,← ha];simp [hkl]
     rw [ha] at e3
     simp only [mf] at e3
     obtain ⟨hr1,hr2⟩:=hrow.out
     rw [hdk,d7] at hr1
     have hlk:(r.take k).length=k:=by simp;omega
     rw [hlk] at hr1
     clear hdk ha hrow
     have e5:(aS r).take (k * 2)=aS (r.take k):=B7
     have g5:(k:Int)≤(r.length:Int):=by omega
     replace hr1:=hid hr1
     replace hr2:=hid hr2
     replace htk:=hid htk
     have e6:=hid hlk
     clear hlk
     repeat' first
       | refine dR ?_
       | (first|refine db (by kernel_rfl) ?_|refine cg (by kernel_rfl) ?_|refine ch ?_|refine iq ?_|refine dM (fun _=>?_)|refine bj ?_|refine de ?_)
         refine sm ?_
       | (first|refine c7 (by kernel_rfl) ?_|refine dc ?_|refine dd ?_|refine dS (bi ?_))
         refine sl ?_
       | exact dN
       | first|apply dO|apply c8|apply dP|apply c9|apply dQ|apply da
       | refine cm ?_
       | first|refine ci rfl ?_|refine cj rfl ?_|refine aZ rfl ?_ ?_|refine cT rfl (fun _=>?_) (fun _=>?_)|refine cS rfl (fun _=>?_) (fun _=>?_)
       | ((first|refine aX (fun _=>?_) (fun _=>?_)|refine bh (fun _=>?_) (fun _=>?_))<;>try refine sm ?_)
       | refine And.intro trivial ?_
       | refine And.intro (by omega) ?_
       | refine bD rfl (fun _=>?_) (fun _=>?_)
       | refine And.intro ?_ ?_
     · rename_i h8
       have h':=herr.out 9 (by rw [← hr1.out,if_pos (by omega)]) (by decide)
       exact aa rfl h'
     · rename_i h8
       have hr3:=hr1.out
       rw [if_neg (by omega)] at hr3
       refine zL ?_
       cases hty:rq ty with
       | false =>
         have h':=hid (herr.out 20 (by rw [← hr3,if_pos hty]) (by decide))
         clear hr3
         refine sk ?_
         refine wk ?_
         exact aa rfl h'.out
       | true =>
         rw [if_neg (by rw [hty];simp)] at hr3
         replace hr3:=hid hr3
         have htl:=wm hty
         refine sk ?_
         repeat' first
           | refine dR ?_
           | (first|refine db (by kernel_rfl) ?_|refine cg (by kernel_rfl) ?_|refine ch ?_|refine iq ?_|refine dM (fun _=>?_)|refine bj ?_|refine de ?_)
             refine sm ?_
           | (first|refine c7 (by kernel_rfl) ?_|refine dc ?_|refine dd ?_|refine dS (bi ?_))
             refine sl ?_
           | exact dN
           | first|apply dO|apply c8|apply dP|apply c9|apply dQ|apply da
           | refine cm ?_
           | first|refine ci rfl ?_|refine cj rfl ?_|refine aZ rfl ?_ ?_|refine cT rfl (fun _=>?_) (fun _=>?_)|refine cS rfl (fun _=>?_) (fun _=>?_)
           | ((first|refine aX (fun _=>?_) (fun _=>?_)|refine bh (fun _=>?_) (fun _=>?_))<;>try refine sm ?_)
           | refine And.intro trivial ?_
           | refine And.intro (by omega) ?_
           | refine bD rfl (fun _=>?_) (fun _=>?_)
           | refine And.intro ?_ ?_
         refine aq (FA e6.out (by omega) hr2.out htl ⟨rfl,rfl⟩) ?_
         cases hha:tR (r.take k) ty with
         | true =>
           have h':=hid (herr.out 21 (by rw [← hr3.out,if_pos hha]) (by decide))
           refine sk ?_
           refine wk ?_
           exact aa rfl h'.out
         | false =>
           have hr4:=hr3.out
           rw [if_neg (by rw [hha];simp),← htk.out] at hr4
           replace hr4:=hid hr4
           clear hr3
           refine sk ?_
           refine wk ?_
           refine ap _ _ _ (by omega) (CutS (b:=by simp)) ⟨k+1,Y++[.cells [.str ty,.str va]],rfl,hkl,by omega,hid ⟨hr4.out,fun a ha=>?_⟩,rfl,by simp⟩
           rw [htk.out] at ha
           rcases List.mem_append.1 ha with h|h
           · exact hr2.out a h
           · rw [List.mem_singleton.1 h];exact htl
   · have hke:k=r.length:=by omega
     subst hke
     have g3:¬ (r.length:Int)<(r.length:Int):=by omega
     have hz:=hrow.out.1
     rw [List.drop_length,d7] at hz
     have he3:=he2.out
     rw [← hz] at he3
     simp only [ne_eq,not_true_eq_false,if_false] at he3
     replace he3:=hid he3
     clear hz
     refine wk ?_
     exact ap _ _ _ (by omega) (CutS (b:=by simp)) ⟨i+1,X++Y,rfl,hlt,by omega,hid he3.out,rfl,rfl⟩
 · have hke:i=d.length:=by omega
   subst hke
   have g1:¬ (d.length:Int)<(d.length:Int):=by omega
   have h':=h.out
   rw [← he.out,List.drop_length,pn] at h'
   replace h':=hid h'
   refine wk ?_
   exact aa rfl h'.out
end Go.Proofs.YtgpnbkdcdmfgcaaGreat.Av
