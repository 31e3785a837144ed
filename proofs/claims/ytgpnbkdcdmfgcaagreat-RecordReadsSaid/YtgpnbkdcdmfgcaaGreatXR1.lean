/- Joined texts of the walk, made small by a program. -/
import Derived.Test.YtgpnbkdcdmfgcaaGreatXP4
import Derived.Test.YtgpnbkdcdmfgcaaGreatRows
import Derived.KernelRfl
import Derived.Test.YtgpnbkdcdmfgcaaGreatXD1
import Derived.Test.YtgpnbkdcdmfgcaaGreatXP5
import Derived.Test.YtgpnbkdcdmfgcaaGreatXD2
set_option linter.unusedSimpArgs false
set_option linter.unusedVariables false
set_option maxRecDepth 100000
namespace Go.Proofs.YtgpnbkdcdmfgcaaGreat.Av
open Go
def tc:List SOp :=
 [o1 2 (.mv (.av (.bool false)))]
def ta:List SOp :=
 [o1 6 (.mv (tm 0)),
 o1 7 (.call 70 [(tm 6)]),
 o1 3 (.mv (tm 7))]
def s9:List SOp :=
 [o1 8 (.mv (tm 3)),
 o1 9 (.len true (tm 8)),
 o1 10 (.bin .geq (tm 9) (iv 1)),
 o1 11 (.mv (tm 10)),
 .grp none 11 true
 [og 12 11 true (.mv (tm 3)),
 og 13 11 true (.len true (tm 12)),
 og 14 11 true (.bin .leq (tm 13) (iv 32))]
 15 (tm 14),
 o1 4 (.mv (tm 15))]
def s8:List SOp :=
 [o1 5 (.mv (iv 0))]
def s7:List SOp :=
 [o1 16 (.mv (tm 5)),
 o1 17 (.mv (tm 3)),
 o1 18 (.len true (tm 17)),
 o1 19 (.bin .lss (tm 16) (tm 18)),
 o1 20 (.mv (tm 19)),
 .grp none 20 true
 [og 21 20 true (.mv (tm 4))]
 22 (tm 21)]
def s6:List SOp :=
 [o1 25 (.mv (tm 3)),
 o1 26 (.mv (tm 5)),
 o1 27 (.idxS (tm 25) (tm 26)),
 o1 28 (.call 71 [(tm 27),(.av (.str [97,98,99,100,101,102,103,104,105,106,107,108,109,110,111,112,113,114,115,116,117,118,119,120,121,122]))]),
 o1 29 (.mv (tm 28)),
 .grp none 29 false
 [og 30 29 false (.mv (tm 5)),
 og 31 29 false (.bin .gtr (tm 30) (iv 0)),
 og 32 29 false (.mv (tm 31)),
 .grp (some (29,false)) 32 true
 [og 33 32 true (.mv (tm 3)),
 og 34 32 true (.mv (tm 5)),
 og 35 32 true (.idxS (tm 33) (tm 34)),
 og 36 32 true (.call 71 [(tm 35),(.av (.str [48,49,50,51,52,53,54,55,56,57,45]))])]
 37 (tm 36)]
 38 (tm 37),
 o1 4 (.mv (tm 38))]
def s3:List SOp :=
 [o1 23 (.mv (tm 5)),
 o1 24 (.bin .add (tm 23) (iv 1)),
 o1 5 (.mv (tm 24))]
def sZ:List SOp :=
 [o1 39 (.mv (tm 4)),
 o1 2 (.mv (tm 39))]
def nv:aK:=⟨40,(.seq (.sreg tc [])
 (.seq (.sreg ta [true,false,false])
 (.seq (.sreg s9 [true,false,false,false,false,false])
 (.seq (.seq (.sreg s8 [])
 (.block 0 (.loop (.seq (.seq (.sreg s7 [true,false,false,false,false,false])
 (.cond (tm 22) .skip
 (.exit 0)))
 (.seq (.block 1 (.sreg s6 [true,false,false,false,false,false,false]))
 (.sreg s3 [true,false,false]))))))
 (.seq (.sreg sZ [true,false])
 .ret))))),[(.tmp 2)]⟩
attribute [push_cast] tc ta s9 s8 s7 s6 s3 sZ
theorem Cg:aQ Tryz.prog (fun _ _=>1) 45=some nv.raw:=by kernel_rfl
def zj:List SOp :=
 [o1 4 (.mv (.av (.bool false)))]
def zi:List SOp :=
 [o1 5 (.mv (iv 0))]
def zh:List SOp :=
 [o1 6 (.mv (tm 5)),
 o1 7 (.mv (tm 1)),
 o1 8 (.len true (tm 7)),
 o1 9 (.bin .lss (tm 6) (tm 8))]
def zg:List SOp :=
 [o1 12 (.mv (tm 1)),
 o1 13 (.mv (tm 5)),
 o1 14 (.idxS (tm 12) (tm 13)),
 o1 15 (.mv (tm 0)),
 o1 16 (.bin .eql (tm 14) (tm 15))]
def zf:List SOp :=
 [o1 4 (.mv (.av (.bool true)))]
def ze:List SOp :=
 [o1 10 (.mv (tm 5)),
 o1 11 (.bin .add (tm 10) (iv 1)),
 o1 5 (.mv (tm 11))]
def zd:List SOp :=
 [o1 4 (.mv (.av (.bool false)))]
def yl:aK:=⟨17,(.seq (.sreg zj [])
 (.seq (.seq (.sreg zi [])
 (.block 0 (.loop (.seq (.seq (.sreg zh [true,false,false,false])
 (.cond (tm 9) .skip
 (.exit 0)))
 (.seq (.block 1 (.seq (.sreg zg [true,false,false,false,false])
 (.cond (tm 16) (.seq (.sreg zf [])
 .ret)
 .skip)))
 (.sreg ze [true,false,false]))))))
 (.seq (.sreg zd [])
 .ret))),[(.tmp 4)]⟩
attribute [push_cast] zj zi zh zg zf ze zd
theorem DK:aQ Tryz.prog (fun _ _=>1) 71=some yl.raw:=by kernel_rfl
def wa:List SOp :=
 [o1 4 (.mv (.av (.bool false)))]
def v8:List SOp :=
 [o1 7 (.mv (tm 0)),
 o1 8 (.len false (tm 7)),
 o1 9 (.mv (iv 0))]
def v7:List SOp :=
 [o1 10 (.bin .lss (tm 9) (tm 8))]
def v6:List SOp :=
 [o1 11 (.iaddr 2 (tm 7) (tm 9)),
 o1 12 (.load true 2 (tm 11)),
 o1 6 (.alloc [(.str []),(.str [])]),
 o0 (.store 2 (tm 6) (tm 12))]
def vZ:List SOp :=
 [o1 13 (.faddr 0 (tm 6)),
 o1 14 (.load false 1 (tm 13)),
 o1 15 (.call 70 [(tm 14)]),
 o1 16 (.mv (tm 1)),
 o1 17 (.call 70 [(tm 16)]),
 o1 18 (.bin .eql (tm 15) (tm 17))]
def vY:List SOp :=
 [o1 4 (.mv (.av (.bool true)))]
def vX:List SOp :=
 [o1 19 (.bin .add (tm 9) (iv 1)),
 o1 9 (.mv (tm 19))]
def vW:List SOp :=
 [o1 4 (.mv (.av (.bool false)))]
def uW:aK:=⟨20,(.seq (.sreg wa [])
 (.seq (.seq (.sreg v8 [])
 (.block 0 (.loop (.seq (.sreg v7 [])
 (.seq (.cond (tm 10) .skip
 (.exit 0))
 (.seq (.block 1 (.seq (.sreg v6 [true,false,false])
 (.seq (.sreg vZ [true,false,false,false,false,false])
 (.cond (tm 18) (.seq (.sreg vY [])
 .ret)
 .skip))))
 (.sreg vX [true,false])))))))
 (.seq (.sreg vW [])
 .ret))),[(.tmp 4)]⟩
attribute [push_cast] wa v8 v7 v6 vZ vY vX vW
theorem Do:aQ Tryz.prog (fun _ _=>1) 46=some uW.raw:=by kernel_rfl
def pK:List SOp :=
 [o1 2 (.mv (.av (.sl [] 0 (some 0)))),
 o1 3 (.mv (iv 0))]
def pJ:List SOp :=
 [o1 12 (.mv (tm 0)),
 o1 13 (.len true (tm 12)),
 o1 14 (.bin .gtr (tm 13) (iv 4096))]
def pI:List SOp :=
 [o1 2 (.mv (.av (.sl [] 0 (some 0)))),
 o1 3 (.mv (iv 5))]
def pH:List SOp :=
 [o1 4 (.mv (.av (.sl [] 0 (some 0))))]
def pG:List SOp :=
 [o1 5 (.mv (iv 0))]
def pF:List SOp :=
 [o1 15 (.mv (tm 0)),
 o1 16 (.len true (tm 15)),
 o1 17 (.bin .gtr (tm 16) (iv 0))]
def pE:List SOp :=
 [o1 6 (.mv (.av (.sl [] 0 (some 0))))]
def pD:List SOp :=
 [o1 18 (.mv (tm 4)),
 o1 19 (.len false (tm 18)),
 o1 20 (.bin .eql (tm 19) (iv 32))]
def pC:List SOp :=
 [o1 2 (.mv (.av (.sl [] 0 (some 0)))),
 o1 3 (.mv (iv 9))]
def pB:List SOp :=
 [o1 21 (.mv (tm 6)),
 o1 22 (.len false (tm 21)),
 o1 23 (.bin .eql (tm 22) (iv 8))]
def lX:List SOp :=
 [o1 2 (.mv (.av (.sl [] 0 (some 0)))),
 o1 3 (.mv (iv 9))]
def lW:List SOp :=
 [o1 24 (.mv (tm 5)),
 o1 7 (.mv (tm 24))]
def lV:List SOp :=
 [o1 25 (.mv (tm 7)),
 o1 26 (.mv (tm 0)),
 o1 27 (.len true (tm 26)),
 o1 28 (.bin .lss (tm 25) (tm 27)),
 o1 29 (.mv (tm 28)),
 .grp none 29 true
 [og 30 29 true (.mv (tm 0)),
 og 31 29 true (.mv (tm 7)),
 og 32 29 true (.idxS (tm 30) (tm 31)),
 og 33 29 true (.bin .neq (tm 32) (.av (.int .u8 61)))]
 34 (tm 33)]
def lU:List SOp :=
 [o1 35 (.mv (tm 7)),
 o1 36 (.bin .add (tm 35) (iv 1)),
 o1 7 (.mv (tm 36))]
def lT:List SOp :=
 [o1 37 (.mv (tm 7)),
 o1 38 (.mv (tm 0)),
 o1 39 (.len true (tm 38)),
 o1 40 (.bin .eql (tm 37) (tm 39)),
 o1 41 (.mv (tm 40)),
 .grp none 41 false
 [og 42 41 false (.mv (tm 0)),
 og 43 41 false (.mv (tm 5)),
 og 44 41 false (.mv (tm 7)),
 og 45 41 false (.slS (tm 42) (some (tm 43)) (some (tm 44))),
 og 46 41 false (.call 45 [(tm 45)]),
 og 47 41 false (.un .not (tm 46))]
 48 (tm 47)]
def lS:List SOp :=
 [o1 2 (.mv (.av (.sl [] 0 (some 0)))),
 o1 3 (.mv (iv 4))]
def lR:List SOp :=
 [o1 49 (.mv (tm 0)),
 o1 50 (.mv (tm 5)),
 o1 51 (.mv (tm 7)),
 o1 52 (.slS (tm 49) (some (tm 50)) (some (tm 51))),
 o1 53 (.build [(.str []),(.str [])] [(0,(1,(tm 52)))]),
 o1 8 (.alloc [(.str []),(.str [])]),
 o0 (.store 2 (tm 8) (tm 53))]
def lQ:List SOp :=
 [o1 54 (.mv (tm 6)),
 o1 55 (.faddr 0 (tm 8)),
 o1 56 (.load false 1 (tm 55)),
 o1 57 (.call 46 [(tm 54),(tm 56)])]
def lP:List SOp :=
 [o1 2 (.mv (.av (.sl [] 0 (some 0)))),
 o1 3 (.mv (iv 21))]
def lO:List SOp :=
 [o1 59 (.mv (tm 0)),
 o1 60 (.mv (tm 7)),
 o1 61 (.bin .add (tm 60) (iv 1)),
 o1 62 (.call 54 [(tm 59),(tm 61)]),
 o1 58 (.mv (tm 62)),
 o1 63 (.extract (tm 58) 0),
 o1 64 (.extract (tm 58) 1),
 o1 65 (.extract (tm 58) 2),
 o1 9 (.mv (tm 63)),
 o1 10 (.mv (tm 64)),
 o1 11 (.mv (tm 65))]
def lN:List SOp :=
 [o1 66 (.mv (tm 11)),
 o1 67 (.un .not (tm 66))]
def lM:List SOp :=
 [o1 2 (.mv (.av (.sl [] 0 (some 0)))),
 o1 3 (.mv (iv 4))]
def lL:List SOp :=
 [o1 68 (.mv (tm 9)),
 o1 69 (.faddr 1 (tm 8)),
 o0 (.store 1 (tm 69) (tm 68))]
def lK:List SOp :=
 [o1 70 (.mv (tm 6)),
 o1 71 (.load true 2 (tm 8)),
 o1 72 (.bslice false 2 1 [(.str []),(.str [])] [(0,(2,(tm 71)))]),
 o1 73 (.app 1 2 32 [(.str []),(.str [])] (tm 70) (tm 72)),
 o1 6 (.mv (tm 73))]
def lJ:List SOp :=
 [o1 74 (.mv (tm 10)),
 o1 5 (.mv (tm 74))]
def lI:List SOp :=
 [o1 75 (.mv (tm 5)),
 o1 76 (.mv (tm 0)),
 o1 77 (.len true (tm 76)),
 o1 78 (.bin .eql (tm 75) (tm 77)),
 o1 79 (.mv (tm 78)),
 .grp none 79 false
 [og 80 79 false (.mv (tm 0)),
 og 81 79 false (.mv (tm 5)),
 og 82 79 false (.idxS (tm 80) (tm 81)),
 og 83 79 false (.bin .eql (tm 82) (.av (.int .u8 44)))]
 84 (tm 83)]
def lH:List SOp :=
 [o1 85 (.mv (tm 5)),
 o1 86 (.bin .add (tm 85) (iv 1)),
 o1 5 (.mv (tm 86))]
def lG:List SOp :=
 [o1 87 (.mv (tm 4)),
 o1 88 (.mv (tm 6)),
 o1 89 (.bslice false 1 1 [(.sl [] 0 (some 0))] [(0,(1,(tm 88)))]),
 o1 90 (.app 1 1 24 [(.sl [] 0 (some 0))] (tm 87) (tm 89)),
 o1 4 (.mv (tm 90))]
def lF:List SOp :=
 [o1 91 (.mv (tm 5)),
 o1 92 (.mv (tm 0)),
 o1 93 (.len true (tm 92)),
 o1 94 (.bin .eql (tm 91) (tm 93))]
def lE:List SOp :=
 [o1 95 (.mv (tm 4)),
 o1 2 (.mv (tm 95)),
 o1 3 (.mv (iv 0))]
def lD:List SOp :=
 [o1 96 (.mv (tm 5)),
 o1 97 (.bin .add (tm 96) (iv 1)),
 o1 5 (.mv (tm 97))]
def lC:List SOp :=
 [o1 2 (.mv (.av (.sl [] 0 (some 0)))),
 o1 3 (.mv (iv 0))]
def jZ:aK:=⟨98,(.seq (.sreg pK [])
 (.seq (.seq (.sreg pJ [true,false,false])
 (.cond (tm 14) (.seq (.sreg pI [])
 .ret)
 .skip))
 (.seq (.sreg pH [])
 (.seq (.sreg pG [])
 (.seq (.block 0 (.loop (.seq (.seq (.sreg pF [true,false,false])
 (.cond (tm 17) .skip
 (.exit 0)))
 (.block 1 (.seq (.sreg pE [])
 (.seq (.seq (.sreg pD [true,false,false])
 (.cond (tm 20) (.seq (.sreg pC [])
 .ret)
 .skip))
 (.seq (.block 2 (.loop (.block 3 (.seq (.seq (.sreg pB [true,false,false])
 (.cond (tm 23) (.seq (.sreg lX [])
 .ret)
 .skip))
 (.seq (.sreg lW [true,false])
 (.seq (.block 4 (.loop (.seq (.seq (.sreg lV [true,false,false,false,false,false])
 (.cond (tm 34) .skip
 (.exit 4)))
 (.block 5 (.sreg lU [true,false,false])))))
 (.seq (.seq (.sreg lT [true,false,false,false,false,false])
 (.cond (tm 48) (.seq (.sreg lS [])
 .ret)
 .skip))
 (.seq (.sreg lR [true,false,false,false,false,false])
 (.seq (.seq (.sreg lQ [true,false,false,false])
 (.cond (tm 57) (.seq (.sreg lP [])
 .ret)
 .skip))
 (.seq (.sreg lO [true,true,true,false,false,false,false,false,false,false,false])
 (.seq (.seq (.sreg lN [true,false])
 (.cond (tm 67) (.seq (.sreg lM [])
 .ret)
 .skip))
 (.seq (.sreg lL [false,false])
 (.seq (.sreg lK [true,false,false,false,false])
 (.seq (.sreg lJ [true,false])
 (.seq (.seq (.sreg lI [true,false,false,false,false,false])
 (.cond (tm 84) (.exit 2)
 .skip))
 (.sreg lH [true,false,false]))))))))))))))))
 (.seq (.sreg lG [true,false,false,false,false])
 (.seq (.seq (.sreg lF [true,false,false,false])
 (.cond (tm 94) (.seq (.sreg lE [true,true,false])
 .ret)
 .skip))
 (.sreg lD [true,false,false]))))))))))
 (.seq (.sreg lC [])
 .ret)))))),[(.tmp 2),(.tmp 3)]⟩
attribute [push_cast] pK pJ pI pH pG pF pE pD pC pB lX lW lV lU lT lS lR lQ lP lO lN lM lL lK lJ lI lH lG lF lE lD lC
theorem AT:aQ Tryz.prog (fun _ _=>1) 37=some jZ.raw:=by kernel_rfl
def o9:List SOp :=
 [o1 4 (.mv (.av (.str []))),
 o1 5 (.mv (iv 0)),
 o1 6 (.mv (.av (.bool false)))]
def o8:List SOp :=
 [o1 7 (.mv (.av (.sl [] 0 (some 0))))]
def o7:List SOp :=
 [o1 8 (.mv (.av (.bool true)))]
def o6:List SOp :=
 [o1 13 (.mv (tm 1)),
 o1 14 (.mv (tm 0)),
 o1 15 (.len true (tm 14)),
 o1 16 (.bin .lss (tm 13) (tm 15)),
 o1 17 (.mv (tm 16)),
 .grp none 17 true
 [og 18 17 true (.mv (tm 0)),
 og 19 17 true (.mv (tm 1)),
 og 20 17 true (.idxS (tm 18) (tm 19)),
 og 21 17 true (.bin .neq (tm 20) (.av (.int .u8 44)))]
 22 (tm 21),
 o1 23 (.mv (tm 22)),
 .grp none 23 true
 [og 24 23 true (.mv (tm 0)),
 og 25 23 true (.mv (tm 1)),
 og 26 23 true (.idxS (tm 24) (tm 25)),
 og 27 23 true (.bin .neq (tm 26) (.av (.int .u8 43)))]
 28 (tm 27)]
def o5:List SOp :=
 [o1 29 (.mv (tm 0)),
 o1 30 (.mv (tm 1)),
 o1 31 (.idxS (tm 29) (tm 30)),
 o1 9 (.mv (tm 31))]
def o4:List SOp :=
 [o1 32 (.mv (tm 1)),
 o1 33 (.bin .add (tm 32) (iv 1)),
 o1 1 (.mv (tm 33))]
def o3:List SOp :=
 [o1 34 (.mv (tm 1)),
 o1 35 (.mv (tm 0)),
 o1 36 (.len true (tm 35)),
 o1 37 (.bin .eql (tm 34) (tm 36)),
 o1 38 (.mv (tm 37)),
 .grp none 38 false
 [og 39 38 false (.mv (tm 0)),
 og 40 38 false (.mv (tm 1)),
 og 41 38 false (.idxS (tm 39) (tm 40)),
 og 42 38 false (.bin .eql (tm 41) (.av (.int .u8 44)))]
 43 (tm 42),
 o1 44 (.mv (tm 43)),
 .grp none 44 false
 [og 45 44 false (.mv (tm 0)),
 og 46 44 false (.mv (tm 1)),
 og 47 44 false (.idxS (tm 45) (tm 46)),
 og 48 44 false (.bin .eql (tm 47) (.av (.int .u8 43)))]
 49 (tm 48),
 o1 10 (.mv (tm 49))]
def oZ:List SOp :=
 [o1 50 (.mv (tm 9)),
 o1 51 (.bin .eql (tm 50) (.av (.int .u8 92)))]
def oY:List SOp :=
 [o1 52 (.mv (tm 1)),
 o1 53 (.mv (tm 0)),
 o1 54 (.len true (tm 53)),
 o1 55 (.bin .lss (tm 52) (tm 54)),
 o1 56 (.mv (tm 55)),
 .grp none 56 true
 [og 57 56 true (.mv (tm 0)),
 og 58 56 true (.mv (tm 1)),
 og 59 56 true (.idxS (tm 57) (tm 58)),
 og 60 56 true (.call 71 [(tm 59),(.av (.str [34,43,44,59,60,62,92,32,35,61]))])]
 61 (tm 60)]
def oX:List SOp :=
 [o1 62 (.mv (tm 7)),
 o1 63 (.mv (tm 0)),
 o1 64 (.mv (tm 1)),
 o1 65 (.idxS (tm 63) (tm 64)),
 o1 66 (.bslice false 1 1 [(.int .u8 0)] [(0,(1,(tm 65)))]),
 o1 67 (.app 1 1 1 [(.int .u8 0)] (tm 62) (tm 66)),
 o1 7 (.mv (tm 67))]
def k9:List SOp :=
 [o1 68 (.mv (tm 1)),
 o1 69 (.bin .add (tm 68) (iv 1)),
 o1 1 (.mv (tm 69))]
def k8:List SOp :=
 [o1 70 (.mv (tm 1)),
 o1 71 (.bin .add (tm 70) (iv 2)),
 o1 72 (.mv (tm 0)),
 o1 73 (.len true (tm 72)),
 o1 74 (.bin .gtr (tm 71) (tm 73))]
def kZ:List SOp :=
 [o1 4 (.mv (.av (.str []))),
 o1 5 (.mv (iv 0)),
 o1 6 (.mv (.av (.bool false)))]
def kY:List SOp :=
 [o1 76 (.mv (tm 0)),
 o1 77 (.mv (tm 1)),
 o1 78 (.mv (tm 1)),
 o1 79 (.bin .add (tm 78) (iv 2)),
 o1 80 (.slS (tm 76) (some (tm 77)) (some (tm 79))),
 o1 81 (.call 79 [(tm 80)]),
 o1 75 (.mv (tm 81)),
 o1 82 (.extract (tm 75) 0),
 o1 83 (.extract (tm 75) 1),
 o1 11 (.mv (tm 82)),
 o1 12 (.mv (tm 83))]
def kX:List SOp :=
 [o1 84 (.mv (tm 12)),
 o1 85 (.un .not (tm 84))]
def kW:List SOp :=
 [o1 4 (.mv (.av (.str []))),
 o1 5 (.mv (iv 0)),
 o1 6 (.mv (.av (.bool false)))]
def kV:List SOp :=
 [o1 86 (.mv (tm 7)),
 o1 87 (.mv (tm 11)),
 o1 88 (.idxS (tm 87) (iv 0)),
 o1 89 (.bslice false 1 1 [(.int .u8 0)] [(0,(1,(tm 88)))]),
 o1 90 (.app 1 1 1 [(.int .u8 0)] (tm 86) (tm 89)),
 o1 7 (.mv (tm 90))]
def kU:List SOp :=
 [o1 91 (.mv (tm 1)),
 o1 92 (.bin .add (tm 91) (iv 2)),
 o1 1 (.mv (tm 92))]
def kT:List SOp :=
 [o1 93 (.mv (tm 9)),
 o1 94 (.bin .eql (tm 93) (.av (.int .u8 0))),
 o1 95 (.mv (tm 94)),
 .grp none 95 false
 [og 96 95 false (.mv (tm 9)),
 og 97 95 false (.call 71 [(tm 96),(.av (.str [34,59,60,62]))])]
 98 (tm 97),
 o1 99 (.mv (tm 98)),
 .grp none 99 false
 [og 100 99 false (.mv (tm 8)),
 og 101 99 false (.mv (tm 100)),
 .grp (some (99,false)) 101 true
 [og 102 101 true (.mv (tm 9)),
 og 103 101 true (.call 71 [(tm 102),(.av (.str [32,35]))])]
 104 (tm 103)]
 105 (tm 104),
 o1 106 (.mv (tm 105)),
 .grp none 106 false
 [og 107 106 false (.mv (tm 10)),
 og 108 106 false (.mv (tm 107)),
 .grp (some (106,false)) 108 true
 [og 109 108 true (.mv (tm 9)),
 og 110 108 true (.bin .eql (tm 109) (.av (.int .u8 32)))]
 111 (tm 110)]
 112 (tm 111)]
def kS:List SOp :=
 [o1 4 (.mv (.av (.str []))),
 o1 5 (.mv (iv 0)),
 o1 6 (.mv (.av (.bool false)))]
def kR:List SOp :=
 [o1 113 (.mv (tm 7)),
 o1 114 (.mv (tm 9)),
 o1 115 (.bslice false 1 1 [(.int .u8 0)] [(0,(1,(tm 114)))]),
 o1 116 (.app 1 1 1 [(.int .u8 0)] (tm 113) (tm 115)),
 o1 7 (.mv (tm 116))]
def kQ:List SOp :=
 [o1 8 (.mv (.av (.bool false)))]
def kP:List SOp :=
 [o1 117 (.mv (tm 7)),
 o1 118 (.b2s (tm 117)),
 o1 119 (.mv (tm 1)),
 o1 4 (.mv (tm 118)),
 o1 5 (.mv (tm 119)),
 o1 6 (.mv (.av (.bool true)))]
def jX:aK:=⟨120,(.seq (.sreg o9 [])
 (.seq (.sreg o8 [])
 (.seq (.sreg o7 [])
 (.seq (.block 0 (.loop (.seq (.seq (.sreg o6 [true,false,false,false,false,false,false,false])
 (.cond (tm 28) .skip
 (.exit 0)))
 (.block 1 (.seq (.sreg o5 [true,false,false,false])
 (.seq (.sreg o4 [true,false,false])
 (.seq (.sreg o3 [true,false,false,false,false,false,false,false,false])
 (.seq (.seq (.sreg oZ [true,false])
 (.cond (tm 51) (.seq (.sreg oY [true,false,false,false,false,false])
 (.cond (tm 61) (.seq (.sreg oX [true,false,false,false,false,false,false])
 (.sreg k9 [true,false,false]))
 (.seq (.seq (.sreg k8 [true,false,false,false,false])
 (.cond (tm 74) (.seq (.sreg kZ [])
 .ret)
 .skip))
 (.seq (.sreg kY [true,true,false,false,false,false,false,false,false,false,false])
 (.seq (.seq (.sreg kX [true,false])
 (.cond (tm 85) (.seq (.sreg kW [])
 .ret)
 .skip))
 (.seq (.sreg kV [true,false,false,false,false,false])
 (.sreg kU [true,false,false])))))))
 (.seq (.seq (.sreg kT [true,false,false,false,false,false,false,false])
 (.cond (tm 112) (.seq (.sreg kS [])
 .ret)
 .skip))
 (.sreg kR [true,false,false,false,false]))))
 (.sreg kQ [])))))))))
 (.seq (.sreg kP [true,true,true,false,false,false])
 .ret))))),[(.tmp 4),(.tmp 5),(.tmp 6)]⟩
attribute [push_cast] o9 o8 o7 o6 o5 o4 o3 oZ oY oX k9 k8 kZ kY kX kW kV kU kT kS kR kQ kP
theorem AP:aQ Tryz.prog (fun _ _=>1) 54=some jX.raw:=by kernel_rfl
def jw:List SOp :=
 [o1 2 (.mv (.av (.str [])))]
def jv:List SOp :=
 [o1 3 (.mv (.av (.sl [] 0 (some 0))))]
def ju:List SOp :=
 [o1 4 (.mv (iv 0))]
def jt:List SOp :=
 [o1 6 (.mv (tm 4)),
 o1 7 (.mv (tm 0)),
 o1 8 (.len true (tm 7)),
 o1 9 (.bin .lss (tm 6) (tm 8))]
def jr:List SOp :=
 [o1 12 (.mv (tm 0)),
 o1 13 (.mv (tm 4)),
 o1 14 (.idxS (tm 12) (tm 13)),
 o1 5 (.mv (tm 14))]
def jq:List SOp :=
 [o1 15 (.mv (tm 5)),
 o1 16 (.bin .eql (tm 15) (.av (.int .u8 0)))]
def jp:List SOp :=
 [o1 17 (.mv (tm 3)),
 o1 18 (.app 1 1 1 [(.int .u8 0)] (tm 17) (.av (.str [92,48,48]))),
 o1 3 (.mv (tm 18))]
def jo:List SOp :=
 [o1 19 (.mv (tm 5)),
 o1 20 (.call 71 [(tm 19),(.av (.str [34,43,44,59,60,62,92]))]),
 o1 21 (.mv (tm 20)),
 .grp none 21 false
 [og 22 21 false (.mv (tm 4)),
 og 23 21 false (.bin .eql (tm 22) (iv 0)),
 og 24 21 false (.mv (tm 23)),
 .grp (some (21,false)) 24 true
 [og 25 24 true (.mv (tm 5)),
 og 26 24 true (.call 71 [(tm 25),(.av (.str [32,35]))])]
 27 (tm 26)]
 28 (tm 27),
 o1 29 (.mv (tm 28)),
 .grp none 29 false
 [og 30 29 false (.mv (tm 4)),
 og 31 29 false (.bin .add (tm 30) (iv 1)),
 og 32 29 false (.mv (tm 0)),
 og 33 29 false (.len true (tm 32)),
 og 34 29 false (.bin .eql (tm 31) (tm 33)),
 og 35 29 false (.mv (tm 34)),
 .grp (some (29,false)) 35 true
 [og 36 35 true (.mv (tm 5)),
 og 37 35 true (.bin .eql (tm 36) (.av (.int .u8 32)))]
 38 (tm 37)]
 39 (tm 38)]
def jn:List SOp :=
 [o1 40 (.mv (tm 3)),
 o1 41 (.bslice false 1 1 [(.int .u8 0)] [(0,(1,(.av (.int .u8 92))))]),
 o1 42 (.app 1 1 1 [(.int .u8 0)] (tm 40) (tm 41)),
 o1 3 (.mv (tm 42))]
def jm:List SOp :=
 [o1 43 (.mv (tm 3)),
 o1 44 (.mv (tm 5)),
 o1 45 (.bslice false 1 1 [(.int .u8 0)] [(0,(1,(tm 44)))]),
 o1 46 (.app 1 1 1 [(.int .u8 0)] (tm 43) (tm 45)),
 o1 3 (.mv (tm 46))]
def iw:List SOp :=
 [o1 10 (.mv (tm 4)),
 o1 11 (.bin .add (tm 10) (iv 1)),
 o1 4 (.mv (tm 11))]
def iu:List SOp :=
 [o1 47 (.mv (tm 3)),
 o1 48 (.b2s (tm 47)),
 o1 2 (.mv (tm 48))]
def gn:aK:=⟨49,(.seq (.sreg jw [])
 (.seq (.sreg jv [])
 (.seq (.seq (.sreg ju [])
 (.block 0 (.loop (.seq (.seq (.sreg jt [true,false,false,false])
 (.cond (tm 9) .skip
 (.exit 0)))
 (.seq (.block 1 (.seq (.sreg jr [true,false,false,false])
 (.seq (.seq (.sreg jq [true,false])
 (.cond (tm 16) (.seq (.sreg jp [true,false,false])
 (.exit 1))
 .skip))
 (.seq (.seq (.sreg jo [true,false,false,false,false,false])
 (.cond (tm 39) (.sreg jn [true,false,false,false])
 .skip))
 (.sreg jm [true,false,false,false,false])))))
 (.sreg iw [true,false,false]))))))
 (.seq (.sreg iu [true,false,false])
 .ret)))),[(.tmp 2)]⟩
attribute [push_cast] jw jv ju jt jr jq jp jo jn jm iw iu
theorem yk:aQ Tryz.prog (fun _ _=>1) 72=some gn.raw:=by kernel_rfl
def sY:List SOp :=
 [o1 2 (.mv (.av (.str [])))]
def sX:List SOp :=
 [o1 3 (.mv (.av (.str [])))]
def sW:List SOp :=
 [o1 8 (.mv (tm 0)),
 o1 9 (.len false (tm 8)),
 o1 10 (.mv (iv 0))]
def sV:List SOp :=
 [o1 11 (.bin .lss (tm 10) (tm 9))]
def sU:List SOp :=
 [o1 12 (.mv (tm 10)),
 o1 13 (.iaddr 1 (tm 8) (tm 10)),
 o1 14 (.load false 1 (tm 13)),
 o1 4 (.mv (tm 12)),
 o1 5 (.mv (tm 14))]
def sT:List SOp :=
 [o1 15 (.mv (tm 4)),
 o1 16 (.bin .gtr (tm 15) (iv 0))]
def sS:List SOp :=
 [o1 17 (.mv (tm 3)),
 o1 18 (.bin .add (tm 17) (.av (.str [44]))),
 o1 3 (.mv (tm 18))]
def sR:List SOp :=
 [o1 19 (.mv (tm 5)),
 o1 20 (.len false (tm 19)),
 o1 21 (.mv (iv 0))]
def sQ:List SOp :=
 [o1 22 (.bin .lss (tm 21) (tm 20))]
def sP:List SOp :=
 [o1 23 (.mv (tm 21)),
 o1 24 (.iaddr 2 (tm 19) (tm 21)),
 o1 25 (.load true 2 (tm 24)),
 o1 7 (.alloc [(.str []),(.str [])]),
 o1 6 (.mv (tm 23)),
 o0 (.store 2 (tm 7) (tm 25))]
def pi:List SOp :=
 [o1 26 (.mv (tm 6)),
 o1 27 (.bin .gtr (tm 26) (iv 0))]
def ph:List SOp :=
 [o1 28 (.mv (tm 3)),
 o1 29 (.bin .add (tm 28) (.av (.str [43]))),
 o1 3 (.mv (tm 29))]
def pg:List SOp :=
 [o1 30 (.mv (tm 3)),
 o1 31 (.faddr 0 (tm 7)),
 o1 32 (.load false 1 (tm 31)),
 o1 33 (.bin .add (tm 30) (tm 32)),
 o1 34 (.bin .add (tm 33) (.av (.str [61]))),
 o1 35 (.faddr 1 (tm 7)),
 o1 36 (.load false 1 (tm 35)),
 o1 37 (.call 72 [(tm 36)]),
 o1 38 (.bin .add (tm 34) (tm 37)),
 o1 3 (.mv (tm 38))]
def pf:List SOp :=
 [o1 39 (.bin .add (tm 21) (iv 1)),
 o1 21 (.mv (tm 39))]
def pd:List SOp :=
 [o1 40 (.bin .add (tm 10) (iv 1)),
 o1 10 (.mv (tm 40))]
def pc:List SOp :=
 [o1 41 (.mv (tm 3)),
 o1 2 (.mv (tm 41))]
def nu:aK:=⟨42,(.seq (.sreg sY [])
 (.seq (.sreg sX [])
 (.seq (.seq (.sreg sW [])
 (.block 0 (.loop (.seq (.sreg sV [])
 (.seq (.cond (tm 11) .skip
 (.exit 0))
 (.seq (.block 1 (.seq (.sreg sU [true,true,false,false,false])
 (.seq (.seq (.sreg sT [true,false])
 (.cond (tm 16) (.sreg sS [true,false,false])
 .skip))
 (.seq (.sreg sR [])
 (.block 2 (.loop (.seq (.sreg sQ [])
 (.seq (.cond (tm 22) .skip
 (.exit 2))
 (.seq (.block 3 (.seq (.sreg sP [true,true,false,false,false])
 (.seq (.seq (.sreg pi [true,false])
 (.cond (tm 27) (.sreg ph [true,false,false])
 .skip))
 (.sdreg pg [.pure,.pure,(.read 0 0),.pure,.pure,.pure,(.read 0 0),(.read 0 0)] [true,false,false,false,false,false,false,false,false,false]))))
 (.sreg pf [true,false]))))))))))
 (.sreg pd [true,false])))))))
 (.seq (.sreg pc [true,false])
 .ret)))),[(.tmp 2)]⟩
attribute [push_cast] sY sX sW sV sU sT sS sR sQ sP pi ph pg pf pd pc
theorem Cf:aQ Tryz.prog (fun _ _=>1) 47=some nu.raw:=by kernel_rfl
def pA:List SOp :=
 [o1 2 (.mv (.av (.str []))),
 o1 3 (.mv (iv 0))]
def pz:List SOp :=
 [o1 4 (.mv (iv 0))]
def py:List SOp :=
 [o1 9 (.mv (tm 0)),
 o1 10 (.len false (tm 9)),
 o1 11 (.mv (iv 0))]
def px:List SOp :=
 [o1 12 (.bin .lss (tm 11) (tm 10))]
def pw:List SOp :=
 [o1 13 (.mv (tm 11)),
 o1 14 (.iaddr 1 (tm 9) (tm 11)),
 o1 15 (.load false 1 (tm 14)),
 o1 5 (.mv (tm 13)),
 o1 6 (.mv (tm 15))]
def pu:List SOp :=
 [o1 16 (.mv (tm 5)),
 o1 17 (.bin .eql (tm 16) (iv 32))]
def pt:List SOp :=
 [o1 2 (.mv (.av (.str []))),
 o1 3 (.mv (iv 9))]
def pr:List SOp :=
 [o1 18 (.mv (tm 6)),
 o1 19 (.len false (tm 18)),
 o1 20 (.bin .eql (tm 19) (iv 0))]
def pq:List SOp :=
 [o1 2 (.mv (.av (.str []))),
 o1 3 (.mv (iv 2))]
def pp:List SOp :=
 [o1 21 (.mv (tm 6)),
 o1 22 (.len false (tm 21)),
 o1 23 (.mv (iv 0))]
def lB:List SOp :=
 [o1 24 (.bin .lss (tm 23) (tm 22))]
def lz:List SOp :=
 [o1 25 (.mv (tm 23)),
 o1 26 (.iaddr 2 (tm 21) (tm 23)),
 o1 27 (.load true 2 (tm 26)),
 o1 8 (.alloc [(.str []),(.str [])]),
 o1 7 (.mv (tm 25)),
 o0 (.store 2 (tm 8) (tm 27))]
def lw:List SOp :=
 [o1 28 (.mv (tm 7)),
 o1 29 (.bin .eql (tm 28) (iv 8))]
def lv:List SOp :=
 [o1 2 (.mv (.av (.str []))),
 o1 3 (.mv (iv 9))]
def lu:List SOp :=
 [o1 30 (.faddr 0 (tm 8)),
 o1 31 (.load false 1 (tm 30)),
 o1 32 (.call 45 [(tm 31)]),
 o1 33 (.un .not (tm 32))]
def lr:List SOp :=
 [o1 2 (.mv (.av (.str []))),
 o1 3 (.mv (iv 20))]
def lq:List SOp :=
 [o1 34 (.mv (tm 6)),
 o1 35 (.mv (tm 7)),
 o1 36 (.slV 2 (tm 34) none (some (tm 35)) none),
 o1 37 (.faddr 0 (tm 8)),
 o1 38 (.load false 1 (tm 37)),
 o1 39 (.call 46 [(tm 36),(tm 38)])]
def lp:List SOp :=
 [o1 2 (.mv (.av (.str []))),
 o1 3 (.mv (iv 21))]
def ln:List SOp :=
 [o1 40 (.mv (tm 4)),
 o1 41 (.faddr 1 (tm 8)),
 o1 42 (.load false 1 (tm 41)),
 o1 43 (.len true (tm 42)),
 o1 44 (.minmax false [(tm 43),(iv 5000)]),
 o1 45 (.bin .add (tm 40) (tm 44)),
 o1 4 (.mv (tm 45))]
def lm:List SOp :=
 [o1 46 (.bin .add (tm 23) (iv 1)),
 o1 23 (.mv (tm 46))]
def lk:List SOp :=
 [o1 47 (.bin .add (tm 11) (iv 1)),
 o1 11 (.mv (tm 47))]
def lh:List SOp :=
 [o1 48 (.mv (tm 4)),
 o1 49 (.bin .gtr (tm 48) (iv 4096)),
 o1 50 (.mv (tm 49)),
 .grp none 50 false
 [og 51 50 false (.mv (tm 0)),
 og 52 50 false (.call 47 [(tm 51)]),
 og 53 50 false (.len true (tm 52)),
 og 54 50 false (.bin .gtr (tm 53) (iv 4096))]
 55 (tm 54)]
def lb:List SOp :=
 [o1 2 (.mv (.av (.str []))),
 o1 3 (.mv (iv 5))]
def la:List SOp :=
 [o1 56 (.mv (tm 0)),
 o1 57 (.call 47 [(tm 56)]),
 o1 2 (.mv (tm 57)),
 o1 3 (.mv (iv 0))]
def jY:aK:=⟨58,(.seq (.sreg pA [])
 (.seq (.sreg pz [])
 (.seq (.seq (.sreg py [])
 (.block 0 (.loop (.seq (.sreg px [])
 (.seq (.cond (tm 12) .skip
 (.exit 0))
 (.seq (.block 1 (.seq (.sreg pw [true,true,false,false,false])
 (.seq (.seq (.sreg pu [true,false])
 (.cond (tm 17) (.seq (.sreg pt [])
 .ret)
 .skip))
 (.seq (.seq (.sreg pr [true,false,false])
 (.cond (tm 20) (.seq (.sreg pq [])
 .ret)
 .skip))
 (.seq (.sreg pp [])
 (.block 2 (.loop (.seq (.sreg lB [])
 (.seq (.cond (tm 24) .skip
 (.exit 2))
 (.seq (.block 3 (.seq (.sreg lz [true,true,false,false,false])
 (.seq (.seq (.sreg lw [true,false])
 (.cond (tm 29) (.seq (.sreg lv [])
 .ret)
 .skip))
 (.seq (.seq (.sreg lu [true,false,false,false])
 (.cond (tm 33) (.seq (.sreg lr [])
 .ret)
 .skip))
 (.seq (.seq (.sdreg lq [.pure,.pure,(.read 0 0),.pure,(.read 0 0)] [true,false,false,false,false,false])
 (.cond (tm 39) (.seq (.sreg lp [])
 .ret)
 .skip))
 (.sreg ln [true,false,false,false,false,false,false]))))))
 (.sreg lm [true,false])))))))))))
 (.sreg lk [true,false])))))))
 (.seq (.seq (.sreg lh [true,false,false,false])
 (.cond (tm 55) (.seq (.sreg lb [])
 .ret)
 .skip))
 (.seq (.sreg la [true,true,false,false])
 .ret))))),[(.tmp 2),(.tmp 3)]⟩
attribute [push_cast] pA pz py px pw pu pt pr pq pp lB lz lw lv lu lr lq lp ln lm lk lh lb la
theorem AS:aQ Tryz.prog (fun _ _=>1) 27=some jY.raw:=by kernel_rfl
set_option maxHeartbeats 8000000
set_option maxRecDepth 100000
theorem fZ {l:List UInt8} {x:UInt8} (hn:l.length≤1100000) {L:List Blk} {K:AV→List Blk→Prop} (h:K (.bool (l.contains x)) L) :
   ad Tryz.prog 71 [.int .u8 x.toNat,.str l] L K:=by
 replace h:=hid h
 refine ac DK (by simp [yl]) ?_
 simp only [yl,aj]
 refine wk ?_
 refine ak (fun n T' L'=>∃ (i:Nat),n=l.length - i∧i≤l.length∧Hid (∀ j,j<i→l.getD j 0≠x)∧T'=[(5,.int .i64 (i:Int)),(0,.int .u8 x.toNat),(1,.str l)]∧L=L') (CutS (b:=Nat.le_refl _)) ⟨0,rfl,Nat.zero_le _,hid (by simp),rfl,rfl⟩ ?_
 rintro _ _ _ ⟨i,rfl,hi,hno,rfl,rfl⟩
 by_cases hlt:i<l.length
 · have h1:(i:Int)<(l.length:Int):=by omega
   have h2:IntKind.i64.wrap ((i:Int)+1)=(i:Int)+1:=ab (by omega) (by omega)
   obtain ⟨p,hp⟩:∃ p,l.getD i 0=p:=⟨_,rfl⟩
   by_cases hpq:p=x
   · have hc:l.contains x=true:=by
       rw [List.contains_iff_mem,← hpq,← hp,List.getD_eq_getElem?_getD,List.getElem?_eq_getElem hlt]
       exact List.getElem_mem _
     have h':=h.out
     rw [hc] at h'
     replace h':=hid h'
     clear hc
     subst hpq
     refine wk ?_
     exact aq h'.out
   · have k1:¬ (p.toNat:Int)=(x.toNat:Int):=fun e=>hpq ((aL p x).1 e)
     have hp':=hid hp
     refine wk ?_
     refine an _ _ _ (by omega) (CutS (b:=Nat.le_refl _)) ⟨i+1,rfl,hlt,hid fun j hj=>?_,rfl,rfl⟩
     rcases Nat.lt_or_ge j i with e|e
     · exact hno.out j e
     · have:j=i:=by omega
       subst this
       rw [hp];exact hpq
 · have hke:i=l.length:=by omega
   subst hke
   have h1:¬ (l.length:Int)<(l.length:Int):=by omega
   have hc:l.contains x=false:=by
     rw [← Bool.not_eq_true,List.contains_iff_mem]
     intro hm
     obtain ⟨j,hj,e⟩:=List.mem_iff_getElem.1 hm
     exact hno.out j hj (by simp [hj,e])
   have h':=h.out
   rw [hc] at h'
   replace h':=hid h'
   clear hc
   refine wk ?_
   exact aq h'.out
abbrev gf:List UInt8:=[97,98,99,100,101,102,103,104,105,106,107,108,109,110,111,112,113,114,115,116,117,118,119,120,121,122]
abbrev Eg:List UInt8:=[48,49,50,51,52,53,54,55,56,57,45]
theorem KT:∀ n:_root_.Fin 256,gf.contains (gb (UInt8.ofNat n.val))=jT (n.val:Int)∧(gf.contains (gb (UInt8.ofNat n.val)) || Eg.contains (gb (UInt8.ofNat n.val)))=AD (n.val:Int):=by decide +kernel
theorem EF (c:UInt8):gf.contains (gb c)=jT (c.toNat:Int)∧(gf.contains (gb c) || Eg.contains (gb c))=AD (c.toNat:Int):=by
 have:=KT ⟨c.toNat,c.toNat_lt⟩
 simpa using this
def okC (j:Nat) (c:UInt8):Bool:=gf.contains (gb c) || (decide (0<j) && Eg.contains (gb c))
theorem IY (s:List UInt8):gl s=true↔(1≤s.length∧s.length≤32)∧∀ j,j<s.length→okC j (s.getD j 0)=true:=by
 simp only [gl,Bool.and_eq_true,decide_eq_true_eq,List.all_eq_true]
 constructor
 · rintro ⟨⟨⟨h1,h2⟩,h3⟩,h4⟩
   refine ⟨⟨h1,h2⟩,fun j hj=>?_⟩
   obtain ⟨e1,e2⟩:=EF (s.getD j 0)
   by_cases h0:j=0
   · subst h0
     rw [okC,e1,h3];rfl
   · have hm:s.getD j 0∈s:=by simp [hj]
     have:=h4 _ hm
     rw [← e2] at this
     rw [okC,show decide (0<j)=true by simp;omega,Bool.true_and]
     exact this
 · rintro ⟨⟨h1,h2⟩,h3⟩
   refine ⟨⟨⟨h1,h2⟩,?_⟩,fun c hc=>?_⟩
   · have:=h3 0 (by omega)
     rw [okC] at this
     simp only [Nat.lt_irrefl,decide_false,Bool.false_and,Bool.or_false] at this
     rw [← (EF _).1];exact this
   · obtain ⟨j,hj,rfl⟩:=List.mem_iff_getElem.1 hc
     have:=h3 j hj
     have e:s.getD j 0=s[j]:=by simp [hj]
     rw [e,okC] at this
     rw [← (EF _).2]
     cases hl:gf.contains (gb s[j]) with
     | true=>rfl
     | false =>
       rw [hl,Bool.false_or,Bool.and_eq_true] at this
       rw [this.2];rfl
theorem Fe {s:List UInt8} (hs:(s.length:Int)≤140737488351232) {L:List Blk} {K:AV→List Blk→Prop} (h:K (.bool (gl s)) L):ad Tryz.prog 45 [.str s] L K:=by
 replace h:=hid h
 obtain ⟨t,ht⟩:∃ t,ax s=t:=⟨_,rfl⟩
 have htl:t.length=s.length:=by rw [← ht];simp [ax]
 have hg:∀ j,j<s.length→t.getD j 0=gb (s.getD j 0):=fun j hj=>by rw [← ht];simp [ax,hj]
 replace htl:=hid htl
 replace hg:=hid hg
 have hit:=hid (IY s)
 refine ac Cg (by simp [nv]) ?_
 simp only [nv,aj]
 refine wk ?_
 refine Fi hs ?_
 rw [ht]
 refine sk ?_
 refine wk ?_
 refine ak (fun n T' L'=>∃ (i:Nat) (b:Bool),n=s.length+1 - i∧i≤s.length∧Hid (b=true↔(1≤s.length∧s.length≤32)∧∀ j,j<i→okC j (s.getD j 0)=true)∧T'=[(5,.int .i64 (i:Int)),(4,.bool b),(3,.str t)]∧L=L') (CutS (b:=Nat.le_refl _)) ⟨0,_,rfl,Nat.zero_le _,hid (by have:=htl.out;simp;omega),rfl,rfl⟩ ?_
 rintro _ _ _ ⟨i,b,rfl,hi,hb,rfl,rfl⟩
 have htl':=htl.out
 by_cases hlt:i<s.length
 · have g1:(i:Int)<(t.length:Int):=by omega
   have g2:IntKind.i64.wrap ((i:Int)+1)=(i:Int)+1:=ab (by omega) (by omega)
   have g3:=hg.out i hlt
   obtain ⟨c,hc⟩:∃ c,s.getD i 0=c:=⟨_,rfl⟩
   rw [hc] at g3
   replace hc:=hid hc
   clear htl'
   cases b with
   | false =>
     have hf:gl s=false:=by
       rw [← Bool.not_eq_true,hit.out]
       intro ⟨q1,q2⟩
       have:=hb.out.2 ⟨q1,fun j hj=>q2 j (by omega)⟩
       cases this
     have h':=h.out
     rw [hf] at h'
     replace h':=hid h'
     clear hf
     refine wk ?_
     exact aq h'.out
   | true =>
     have hnext:okC i c=true↔((1≤s.length∧s.length≤32)∧∀ j,j<i+1→okC j (s.getD j 0)=true):=by
       have hb1:=hb.out.1 rfl
       constructor
       · intro e
         refine ⟨hb1.1,fun j hj=>?_⟩
         rcases Nat.lt_or_ge j i with q|q
         · exact hb1.2 j q
         · have:j=i:=by omega
           subst this;rw [hc.out];exact e
       · rintro ⟨_,e⟩
         have:=e i (by omega)
         rwa [hc.out] at this
     replace hnext:=hid hnext
     have hok:okC i c=(gf.contains (gb c) || (decide (0<i) && Eg.contains (gb c))):=rfl
     replace hok:=hid hok
     refine wk ?_
     refine fZ (by simp) ?_
     cases hl:gf.contains (gb c) with
     | true =>
       have hk:=hid (show okC i c=true by rw [hok.out,hl];rfl)
       refine sk ?_
       refine wk ?_
       exact an _ _ _ (by omega) (CutL (b:=Nat.le_refl _)) ⟨i+1,true,rfl,hlt,hid (by rw [← hnext.out,hk.out]),rfl,rfl⟩
     | false =>
       by_cases h0:i=0
       · have hk:=hid (show okC i c=false by rw [hok.out,hl,h0];rfl)
         have k0:¬ (0:Int)<(i:Int):=by omega
         clear h0
         refine sk ?_
         refine wk ?_
         exact an _ _ _ (by omega) (CutL (b:=Nat.le_refl _)) ⟨i+1,false,rfl,hlt,hid (by rw [← hnext.out,hk.out]),rfl,rfl⟩
       · have hk:=hid (show okC i c=Eg.contains (gb c) by rw [hok.out,hl,show decide (0<i)=true by simp;omega];simp)
         have k0:(0:Int)<(i:Int):=by omega
         clear h0
         refine sk ?_
         repeat' first
           | refine cc ?_
           | (first|refine bs (by kernel_rfl) ?_|refine aT (by kernel_rfl) ?_|refine aU ?_|refine dw ?_|refine bY (fun _=>?_)|refine aF ?_|refine bv ?_)
             refine sm ?_
           | (first|refine bo (by kernel_rfl) ?_|refine bt ?_|refine bu ?_|refine ce (aE ?_))
             refine sl ?_
           | exact bZ
           | first|apply b9|apply bp|apply ca|apply bq|apply cb|apply br
           | refine aX ?_
           | first|refine aV rfl ?_|refine aW rfl ?_|refine aA rfl ?_ ?_|refine ba rfl (fun _=>?_) (fun _=>?_)|refine a8 rfl (fun _=>?_) (fun _=>?_)
           | ((first|refine ay (fun _=>?_) (fun _=>?_)|refine aC (fun _=>?_) (fun _=>?_))<;>try refine sm ?_)
           | refine And.intro trivial ?_
           | refine And.intro (by omega) ?_
           | refine aY rfl (fun _=>?_) (fun _=>?_)
           | refine And.intro ?_ ?_
         refine aD (fZ (by simp) ⟨rfl,rfl⟩) ?_
         simp only [Kon,push_cast,reduceIte,Nat.reduceEqDiff,Nat.reduceAdd,Nat.reduceMul,Nat.reduceSub,Nat.reduceLT,Nat.reduceLeDiff,Int.reduceLT,Int.reduceLE,Int.reduceAdd,Int.reduceSub,Int.reduceNeg,Int.reduceToNat,Int.reduceEq,reduceCtorEq, *]
         repeat' first
           | refine cc ?_
           | (first|refine bs (by kernel_rfl) ?_|refine aT (by kernel_rfl) ?_|refine aU ?_|refine dw ?_|refine bY (fun _=>?_)|refine aF ?_|refine bv ?_)
             refine sm ?_
           | (first|refine bo (by kernel_rfl) ?_|refine bt ?_|refine bu ?_|refine ce (aE ?_))
             refine sl ?_
           | exact bZ
           | first|apply b9|apply bp|apply ca|apply bq|apply cb|apply br
           | refine aX ?_
           | first|refine aV rfl ?_|refine aW rfl ?_|refine aA rfl ?_ ?_|refine ba rfl (fun _=>?_) (fun _=>?_)|refine a8 rfl (fun _=>?_) (fun _=>?_)
           | ((first|refine ay (fun _=>?_) (fun _=>?_)|refine aC (fun _=>?_) (fun _=>?_))<;>try refine sm ?_)
           | refine And.intro trivial ?_
           | refine And.intro (by omega) ?_
           | refine aY rfl (fun _=>?_) (fun _=>?_)
           | refine And.intro ?_ ?_
         exact an _ _ _ (by omega) (CutL (b:=Nat.le_refl _)) ⟨i+1,Eg.contains (gb c),rfl,hlt,hid (by rw [← hnext.out,hk.out]),rfl,rfl⟩
 · have hke:i=s.length:=by omega
   subst hke
   have g1:¬ (s.length:Int)<(t.length:Int):=by omega
   have hfin:b=gl s:=by
     have e:=hb.out.trans hit.out.symm
     cases b<;>cases hs':gl s<;>simp_all
   have h':=h.out
   rw [← hfin] at h'
   replace h':=hid h'
   clear hfin
   clear htl'
   refine wk ?_
   exact aq h'.out
theorem Hh {s:List UInt8} (hs:(s.length:Int)≤100000) {L:List Blk} {K:AV→List Blk→Prop} (h:K (.bool (gl s)) L):ad Tryz.prog 45 [.str s] L K:=Fe (by omega) h
set_option maxHeartbeats 8000000
set_option maxRecDepth 100000
theorem Jd {r:List Ava} {typ:List UInt8} {cap:Option Nat} (hn:r.length≤100000) (h1:∀ a∈r,(a.1.length:Int)≤100000) (h2:(typ.length:Int)≤100000) {L:List Blk} {K:AV→List Blk→Prop} (h:K (.bool (gP r typ)) L) :
   ad Tryz.prog 46 [Gk r cap,.str typ] L K:=by
 replace h:=hid h
 replace h1:=hid h1
 refine ac Do (by simp [uW]) ?_
 simp only [uW,aj]
 refine wk ?_
 refine ak (fun n T' L'=>∃ (k:Nat) (Z:List Blk),n=r.length - k∧k≤r.length∧Hid (gP (r.take k) typ=false)∧T'=[(9,.int .i64 (k:Int)),(8,.int .i64 r.length),(7,Gk r cap),(1,.str typ)]∧L'=L++Z) (CutS (b:=by simp)) ⟨0,[],rfl,Nat.zero_le _,hid rfl,rfl,by simp⟩ ?_
 rintro _ _ _ ⟨k,Z,rfl,hk,hf,rfl,rfl⟩
 by_cases hlt:k<r.length
 · have g1:(k:Int)<(r.length:Int):=by omega
   have g2:IntKind.i64.wrap ((k:Int)+1)=(k:Int)+1:=ab (by omega) (by omega)
   have e1:=eM hlt
   have e2:k * 2+2≤(a7 r).length:=by rw [dp];omega
   obtain ⟨⟨ty,va⟩,ha⟩:∃ a,r.getD k ([],[])=a:=⟨_,rfl⟩
   have ham:(ty,va)∈r:=by rw [← ha];simp [hlt]
   have htk:r.take (k+1)=r.take k++[(ty,va)]:=by rw [List.take_succ_eq_append_getElem hlt,← ha];simp [hlt]
   rw [ha] at e1
   simp only [rp] at e1
   have hs:gP (r.take (k+1)) typ=decide (ax ty=ax typ):=by
     have:=hf.out
     simp only [gP] at this ⊢
     rw [htk,List.any_append,this];simp
   have ha1:=h1.out _ ham
   simp only at ha1
   have hall:ax ty=ax typ→gP r typ=true:=fun e=>List.any_eq_true.2 ⟨_,ham,by simpa using e⟩
   replace hall:=hid hall
   replace hs:=hid hs
   clear ha ham htk
   by_cases hq:ax ty=ax typ
   · have h':=h.out
     rw [hall.out hq] at h'
     replace h':=hid h'
     have kk1:=@hid _ (fun L K=>yF ha1 (L:=L) (K:=K))
     have kk2:=@hid _ (fun L K=>yF h2 (L:=L) (K:=K))
     refine wk ?_
     exact aa rfl h'.out
   · have kk1:=@hid _ (fun L K=>yF ha1 (L:=L) (K:=K))
     have kk2:=@hid _ (fun L K=>yF h2 (L:=L) (K:=K))
     refine wk ?_
     exact an _ _ _ (by omega) (CutL (b:=by simp)) ⟨k+1,_,rfl,hlt,hid (by rw [hs.out];simpa using hq),rfl,rfl⟩
 · have hke:k=r.length:=by omega
   subst hke
   have g1:¬ (r.length:Int)<(r.length:Int):=by omega
   have hn':=hf.out
   rw [List.take_length] at hn'
   have h':=h.out
   rw [hn'] at h'
   replace h':=hid h'
   clear hn'
   refine wk ?_
   exact aa rfl h'.out
set_option maxHeartbeats 8000000
set_option maxRecDepth 100000
theorem Gg {s:List UInt8} (hs:s.length≤100000) {L:List Blk} {K:AV→List Blk→Prop} (h:K (.str (ft s)) L):ad Tryz.prog 72 [.str s] L K:=by
 replace h:=hid h
 refine ac yk (by simp [gn]) ?_
 simp only [gn,aj]
 refine wk ?_
 refine cj (l:=[]) (n:=0) 3 1 rfl (Nat.zero_mul 1).symm ?_
 refine ak (fun n T' L'=>∃ (i m:Nat) (b:List UInt8),n=s.length - i∧i≤s.length∧m≤3 * i∧Hid (m=b.length∧b++wrL s.length i (s.drop i)=ft s)∧T'=[(4,.int .i64 (i:Int)),(3,.gsl (u8s b) m L.length 1),(0,.str s)]∧L'=L++[.spare m 1]) (CutS (b:=by simp)) ⟨0,0,[],rfl,Nat.zero_le _,by omega,hid ⟨rfl,rfl⟩,rfl,rfl⟩ ?_
 rintro _ _ _ ⟨i,m,b,rfl,hi,hm,hb,rfl,rfl⟩
 by_cases hlt:i<s.length
 · have g1:(i:Int)<(s.length:Int):=by omega
   have g2:IntKind.i64.wrap ((i:Int)+1)=(i:Int)+1:=ab (by omega) (by omega)
   obtain ⟨c,hc⟩:∃ c,s.getD i 0=c:=⟨_,rfl⟩
   have hdr:=uU hlt
   rw [hc] at hdr
   have hb2:=hb.out.2
   rw [hdr] at hb2
   simp only [wrL] at hb2
   clear hdr
   replace hb2:=hid hb2
   obtain ⟨p1,hp1⟩:∃ p,([34,43,44,59,60,62,92]:List UInt8).contains c=p:=⟨_,rfl⟩
   obtain ⟨p2,hp2⟩:∃ p,([32,35]:List UInt8).contains c=p:=⟨_,rfl⟩
   have hq1:p1=true↔c∈([34,43,44,59,60,62,92]:List UInt8):=by rw [← hp1,List.contains_iff_mem]
   have hq2:p2=true↔(c=32∨c=35):=by rw [← hp2,List.contains_iff_mem];simp
   replace hq1:=hid hq1
   replace hq2:=hid hq2
   repeat' first
     | refine cc ?_
     | (first|refine bs (by kernel_rfl) ?_|refine aT (by kernel_rfl) ?_|refine aU ?_|refine dw ?_|refine bY (fun _=>?_)|refine aF ?_|refine bv ?_|refine fZ (by simp) ?_|refine bz (fZ (by simp) ⟨rfl,rfl⟩) (fZ (by simp) ⟨rfl,rfl⟩) ?_|refine aD (fZ (by simp) ⟨rfl,rfl⟩) ?_)
       refine sm ?_
     | (first|refine bo (by kernel_rfl) ?_|refine bt ?_|refine bu ?_|refine ce (aE ?_))
       refine sl ?_
     | exact bZ
     | first|apply b9|apply bp|apply ca|apply bq|apply cb|apply br
     | refine aX ?_
     | first|refine aV rfl ?_|refine aW rfl ?_|refine aA rfl ?_ ?_|refine ba rfl (fun _=>?_) (fun _=>?_)|refine a8 rfl (fun _=>?_) (fun _=>?_)
     | ((first|refine ay (fun _=>?_) (fun _=>?_)|refine aC (fun _=>?_) (fun _=>?_))<;>try refine sm ?_)
     | refine And.intro trivial ?_
     | refine And.intro (by omega) ?_
     | refine aY rfl (fun _=>?_) (fun _=>?_)
     | refine And.intro ?_ ?_
   · rfl
   · omega
   · rename_i h0
     have hc0:=(aL c 0).1 h0
     rw [show u8s b++AV.frzL (u8s [92,48,48])=u8s (b++[92,48,48]) by simp [u8s,AV.frzL,AV.frz]]
     refine an _ _ _ (by omega) (CutL (b:=by simp)) ⟨i+1,m+3,b++[92,48,48],rfl,hlt,by omega,hid ⟨by simp [hb.out.1],?_⟩,rfl,rfl⟩
     rw [← hb2.out,wrB,if_pos hc0,List.append_assoc]
   · rename_i h0 h1
     have hc0:¬ c=0:=fun e=>h0 ((aL c 0).2 e)
     have hq:(i=0∧(c=32∨c=35))∨(i+1=s.length∧c=32)∨c∈[34,43,44,59,60,62,92]:=by
       simp only [Bool.or_eq_true,Bool.and_eq_true,decide_eq_true_eq] at h1
       rcases h1 with (e|⟨e1,e2⟩)|⟨e1,e2⟩
       · exact .inr (.inr (hq1.out.1 e))
       · exact .inl ⟨by omega,hq2.out.1 e2⟩
       · exact .inr (.inl ⟨by omega,(aL c 32).1 e2⟩)
     rw [show u8s b++[AV.int IntKind.u8 92,AV.int IntKind.u8 (c.toNat:Int)]=u8s (b++[92,c]) by simp [u8s]]
     refine an _ _ _ (by omega) (CutL (b:=by simp)) ⟨i+1,m+1+1,b++[92,c],rfl,hlt,by omega,hid ⟨by simp [hb.out.1],?_⟩,rfl,rfl⟩
     rw [← hb2.out,wrB,if_neg hc0,if_pos hq,List.append_assoc]
   · rename_i h0 h1
     have hc0:¬ c=0:=fun e=>h0 ((aL c 0).2 e)
     have hq:¬ ((i=0∧(c=32∨c=35))∨(i+1=s.length∧c=32)∨c∈[34,43,44,59,60,62,92]):=fun hq=>by
       rw [← Bool.not_eq_true] at h1
       refine h1 ?_
       simp only [Bool.or_eq_true,Bool.and_eq_true,decide_eq_true_eq]
       rcases hq with ⟨e1,e2⟩|⟨e1,e2⟩|e
       · exact .inl (.inr ⟨by omega,hq2.out.2 e2⟩)
       · exact .inr ⟨by omega,(aL c 32).2 e2⟩
       · exact .inl (.inl (hq1.out.2 e))
     rw [show u8s b++[AV.int IntKind.u8 (c.toNat:Int)]=u8s (b++[c]) by simp [u8s]]
     refine an _ _ _ (by omega) (CutL (b:=by simp)) ⟨i+1,m+1,b++[c],rfl,hlt,by omega,hid ⟨by simp [hb.out.1],?_⟩,rfl,rfl⟩
     rw [← hb2.out,wrB,if_neg hc0,if_neg hq,List.append_assoc]
 · have hke:i=s.length:=by omega
   subst hke
   have g1:¬ (s.length:Int)<(s.length:Int):=by omega
   have e1:=fT b
   have e2:=eY b
   have e:=hb.out.2
   rw [List.drop_length,wrL,List.append_nil] at e
   have h':=h.out
   rw [← e] at h'
   replace h':=hid h'
   clear e
   refine wk ?_
   exact aa rfl h'.out
set_option maxHeartbeats 8000000
set_option maxRecDepth 100000
def Iu (n:Nat):Nat:=if n<10 then 48+n else 87+n
theorem ru {n:Nat} (hn:n<16) {L:List Blk} {K:AV→List Blk→Prop} (h:K (.int .u8 (Iu n:Nat)) L):ad Tryz.prog 104 [.int .u8 n] L K:=by
 unfold Iu at h
 refine ac AU (by simp [j4]) ?_
 simp only [j4,aj]
 by_cases h1:n<10
 · rw [if_pos h1] at h
   replace h:=hid h
   have k1:(n:Int)<10:=by omega
   have k2:IntKind.u8.wrap (48+(n:Int))=48+(n:Int):=bd (by omega) (by omega)
   clear h1
   refine wk ?_
   refine aq ?_
   simpa using h.out
 · rw [if_neg h1] at h
   replace h:=hid h
   have k1:¬ (n:Int)<10:=by omega
   have k2:IntKind.u8.wrap (97+(n:Int))=97+(n:Int):=bd (by omega) (by omega)
   have k3:IntKind.u8.wrap (97+(n:Int) - 10)=97+(n:Int) - 10:=bd (by omega) (by omega)
   clear h1
   refine wk ?_
   refine aq ?_
   have:=h.out
   rwa [show ((87+n:Nat):Int)=97+(n:Int) - 10 by omega] at this
theorem KW:∀ (a:_root_.Fin 256) (x:_root_.Fin 16),(Iu x.val=(gb (UInt8.ofNat a.val)).toNat)↔fh (UInt8.ofNat a.val)=some x.val:=by decide +kernel
set_option maxHeartbeats 8000000
set_option maxRecDepth 100000
theorem ME {a:UInt8} {x:Nat} (hx:x<16):((Iu x:Nat):Int)=((gb a).toNat:Int)↔fh a=some x:=by
 have:=KW ⟨a.toNat,a.toNat_lt⟩ ⟨x,hx⟩
 simp only [UInt8.ofNat_toNat] at this
 rw [← this];omega
def Gy (a b:UInt8) (k:Nat):Prop:=fh a=some (k / 16)∧fh b=some (k % 16)
theorem If {a b:UInt8} {k:Nat} (h:Gy a b k):Aq a b=some (UInt8.ofNat k):=by
 obtain ⟨h1,h2⟩:=h
 simp only [Aq,h1,h2]
 congr 2;omega
theorem Ig {a b:UInt8} (h:∀ j,j<256→¬ Gy a b j):Aq a b=none:=by
 unfold Aq
 rcases h1:fh a with _|x
 · rfl
 · rcases h2:fh b with _|y
   · rfl
   · have:=vq h1
     have:=vq h2
     exact absurd ⟨by rw [h1];congr 1;omega,by rw [h2];congr 1;omega⟩ (h (16 * x+y) (by omega))
theorem HY {a b:UInt8} {L:List Blk} {K:AV→List Blk→Prop} (h:K (yc a b) L):ad Tryz.prog 79 [.str [a,b]] L K:=by
 obtain ⟨p,hp⟩:∃ p,gb a=p:=⟨_,rfl⟩
 obtain ⟨q,hq⟩:∃ q,gb b=q:=⟨_,rfl⟩
 have hf:ax [a,b]=[p,q]:=by simp [ax,hp,hq]
 have hl:[p,q].length=2:=rfl
 have hl':[a,b].length=2:=rfl
 have ha:[p,q].getD 0 0=p:=rfl
 have hb:[p,q].getD 1 0=q:=rfl
 have d1:Int.tmod 2 2=0:=by decide
 replace h:=hid h
 refine ac AX (by simp [j5]) ?_
 simp only [j5,aj]
 refine wk ?_
 refine yF (by simp) ?_
 rw [hf]
 refine sk ?_
 refine wk ?_
 refine cj (l:=[]) (n:=0) 4 1 rfl (Nat.zero_mul 1).symm ?_
 refine ak (fun n T' L'=>(n=1∧T'=[(6,.int .i64 0),(4,.gsl [] 0 L.length 1),(5,.str [p,q]),(0,.str [a,b])]∧L'=L++[.spare 0 1])∨(n=0∧∃ (x:UInt8) (w:List AV),Hid (Aq a b=some x∧w=u8s [x])∧T'=[(6,.int .i64 2),(4,.gsl w 1 L.length 1),(5,.str [p,q]),(0,.str [a,b])]∧L'=L++[.spare 1 1])) (n0:=1) (T0:=[(6,.int .i64 0),(4,.gsl [] 0 L.length 1),(5,.str [p,q]),(0,.str [a,b])]) (L0:=L++[.spare 0 1]) (CutS (b:=by simp)) (.inl ⟨rfl,rfl,rfl⟩) ?_
 rintro _ _ _ (⟨rfl,rfl,rfl⟩|⟨rfl,x,w,hx,rfl,rfl⟩)
 · refine wk ?_
   refine ak (fun n T' L'=>(∃ k:Nat,n=257 - k∧k≤256∧Hid (∀ j,j<k→¬ Gy a b j)∧T'=[(8,.int .i64 (k:Int)),(7,.bool false),(6,.int .i64 0),(4,.gsl [] 0 L.length 1),(5,.str [p,q]),(0,.str [a,b])]∧L'=L++[.spare 0 1])∨(n=0∧∃ (x:UInt8) (k:Nat) (w:List AV),k≤256∧Hid (Aq a b=some x∧w=u8s [x])∧T'=[(8,.int .i64 (k:Int)),(7,.bool true),(6,.int .i64 0),(4,.gsl w 1 L.length 1),(5,.str [p,q]),(0,.str [a,b])]∧L'=L++[.spare 1 1])) (n0:=257) (T0:=[(8,.int .i64 0),(7,.bool false),(6,.int .i64 0),(4,.gsl [] 0 L.length 1),(5,.str [p,q]),(0,.str [a,b])]) (L0:=L++[.spare 0 1]) (CutS (b:=by simp)) (.inl ⟨0,rfl,by omega,hid (by simp),rfl,rfl⟩) ?_
   rintro _ _ _ (⟨k,rfl,hk,hno,rfl,rfl⟩|⟨rfl,x,k,w,hk,hx,rfl,rfl⟩)
   · by_cases hlt:k<256
     · have g1:(k:Int)<256:=by omega
       have g2:IntKind.i64.wrap ((k:Int)+1)=(k:Int)+1:=ab (by omega) (by omega)
       have g3:IntKind.u8.wrap (k:Int)=(k:Int):=bd (by omega) (by omega)
       obtain ⟨u,hu⟩:∃ u,k / 16=u:=⟨_,rfl⟩
       obtain ⟨v,hv⟩:∃ v,k % 16=v:=⟨_,rfl⟩
       have hu16:u<16:=by omega
       have hv16:v<16:=by omega
       have g4:IntKind.i64.wrap (Int.tdiv (k:Int) 16)=(u:Int):=by
         rw [Int.tdiv_eq_ediv_of_nonneg (by omega),ab (by omega) (by omega)];omega
       have g5:IntKind.u8.wrap (u:Int)=(u:Int):=bd (by omega) (by omega)
       have g6:Int.tmod (k:Int) 16=(v:Int):=by
         rw [Int.tmod_eq_emod_of_nonneg (by omega)];omega
       have g7:IntKind.u8.wrap (v:Int)=(v:Int):=bd (by omega) (by omega)
       have m1:=ME (a:=a) hu16
       have m2:=ME (a:=b) hv16
       rw [hp] at m1
       rw [hq] at m2
       have mk:Gy a b k↔fh a=some u∧fh b=some v:=by unfold Gy;rw [hu,hv]
       replace hu:=hid hu
       replace hv:=hid hv
       replace mk:=hid mk
       have nxt:=hid fun (e:¬ Gy a b k)=>show ∀ j,j<k+1→¬ Gy a b j from fun j hj=>by
         rcases Nat.lt_or_ge j k with e'|e'
         · exact hno.out j e'
         · rw [show j=k by omega];exact e
       by_cases h1:fh a=some u
       · have k1:=m1.2 h1
         by_cases h2:fh b=some v
         · have k2:=m2.2 h2
           have hx:=If (mk.out.2 ⟨h1,h2⟩)
           have hkk:((UInt8.ofNat k).toNat:Int)=(k:Int):=by simp;omega
           replace hkk:=hid hkk
           replace hx:=hid hx
           clear m1 m2 h1 h2
           have kk1:=@hid _ (fun L K=>ru hu16 (L:=L) (K:=K))
           have kk2:=@hid _ (fun L K=>ru hv16 (L:=L) (K:=K))
           refine wk ?_
           refine an _ _ _ (by omega) (CutL (b:=by simp)) (.inr ⟨rfl,UInt8.ofNat k,k+1,_,by omega,hid ⟨hx.out,?_⟩,rfl,rfl⟩)
           simp only [u8s,List.map,hkk.out]
         · have k2:¬ ((Iu v:Nat):Int)=(q.toNat:Int):=fun e=>h2 (m2.1 e)
           have hn:=hid (nxt.out fun e=>h2 (mk.out.1 e).2)
           clear m1 m2 h1 h2
           have kk1:=@hid _ (fun L K=>ru hu16 (L:=L) (K:=K))
           have kk2:=@hid _ (fun L K=>ru hv16 (L:=L) (K:=K))
           refine wk ?_
           exact an _ _ _ (by omega) (CutL (b:=by simp)) (.inl ⟨k+1,rfl,by omega,hn,rfl,rfl⟩)
       · have k1:¬ ((Iu u:Nat):Int)=(p.toNat:Int):=fun e=>h1 (m1.1 e)
         have hn:=hid (nxt.out fun e=>h1 (mk.out.1 e).1)
         clear m1 m2 h1
         have kk1:=@hid _ (fun L K=>ru hu16 (L:=L) (K:=K))
         refine wk ?_
         exact an _ _ _ (by omega) (CutL (b:=by simp)) (.inl ⟨k+1,rfl,by omega,hn,rfl,rfl⟩)
     · have hke:k=256:=by omega
       subst hke
       have h':=h.out
       simp only [yc,Ig hno.out] at h'
       replace h':=hid h'
       have g1:¬ ((256:Nat):Int)<256:=by omega
       refine wk ?_
       exact aa rfl h'.out
   · by_cases hlt:(k:Int)<256
     · refine wk ?_
       exact an _ _ _ (by omega) (CutL (b:=by simp)) (.inr ⟨rfl,x,w,hx,rfl,rfl⟩)
     · refine wk ?_
       exact an _ _ _ (by omega) (CutL (b:=by simp)) (.inr ⟨rfl,x,w,hx,rfl,rfl⟩)
 · have h':=h.out
   simp only [yc,hx.out.1] at h'
   replace h':=hid h'
   rw [hx.out.2]
   have e1:=fT [x]
   have e2:=eY [x]
   refine wk ?_
   exact aa rfl h'.out
set_option maxHeartbeats 8000000
set_option maxRecDepth 100000
def fF (b:List UInt8) (bl:Bool) (s:List UInt8):Option (List UInt8×List UInt8):=match dx b bl s with
 | some (v,r,true)=>some (v,r)
 | _=>none
def F9 (n:Nat) (o:Option (List UInt8×List UInt8)):AV:=match o with
 | none=>.tup [.str [],.int .i64 0,.bool false]
 | some (v,r)=>.tup [.str v,.int .i64 ((n - r.length:Nat):Int),.bool true]
theorem HM {b s:List UInt8} {c:UInt8} (h:c=44∨c=43):fF b false (c::s)=some (b,c::s):=by simp only [fF,gR h];rfl
theorem F8 {b s:List UInt8} {c:UInt8} (h:c=44∨c=43):fF b true (c::s)=none:=by simp only [fF,gR h];rfl
theorem IR {b:List UInt8}:fF b false []=some (b,[]):=by simp only [fF,fX];rfl
theorem HO {b:List UInt8}:fF b true []=none:=by simp only [fF,fX];rfl
theorem IS {b s:List UInt8} {bl:Bool} {c:UInt8} (h:¬ (c=44∨c=43)) (h2:c≠92) (hb:c=0∨c∈([34,59,60,62]:List UInt8)∨(b=[]∧(c=32∨c=35))):fF b bl (c::s)=none:=by
 simp only [fF,fG h h2,if_pos hb]
theorem Cy {b s:List UInt8} {bl:Bool} {c:UInt8} (h:¬ (c=44∨c=43)) (h2:c≠92) (hb:¬ (c=0∨c∈([34,59,60,62]:List UInt8)∨(b=[]∧(c=32∨c=35)))):fF b bl (c::s)=fF (b++[c]) (decide (c=32)) s:=by
 simp only [fF,fG h h2,if_neg hb]
theorem Cp {x:UInt8} {L:List Blk} {K:AV→List Blk→Prop} (h:K (.bool (gU.contains x)) L):ad Tryz.prog 71 [.int .u8 x.toNat,.str gU] L K:=fZ (by simp) h
theorem Ew {a b c d x:UInt8} {L:List Blk} {K:AV→List Blk→Prop} (h:K (.bool ([a,b,c,d].contains x)) L):ad Tryz.prog 71 [.int .u8 x.toNat,.str [a,b,c,d]] L K:=fZ (by simp) h
theorem Ex {a b x:UInt8} {L:List Blk} {K:AV→List Blk→Prop} (h:K (.bool ([a,b].contains x)) L):ad Tryz.prog 71 [.int .u8 x.toNat,.str [a,b]] L K:=fZ (by simp) h
theorem Ja {s:List UInt8} {at0:Nat} (hs:s.length≤100000) (hat:at0≤s.length) {L:List Blk} {K:AV→List Blk→Prop} (h:K (F9 s.length (fF [] false (s.drop at0))) L):ad Tryz.prog 54 [.str s,.int .i64 (at0:Int)] L K:=by
 obtain ⟨R,hR⟩:∃ R,fF [] false (s.drop at0)=R:=⟨_,rfl⟩
 rw [hR] at h
 replace h:=hid h
 refine ac AP (by simp [jX]) ?_
 simp only [jX,aj]
 refine wk ?_
 refine cj (l:=[]) (n:=0) 7 1 rfl (Nat.zero_mul 1).symm ?_
 refine ak (fun n T' L'=>∃ (i m:Nat) (b:List UInt8) (bl fb:Bool),n=s.length - i∧i≤s.length∧m≤i∧Hid (m=b.length∧fF b bl (s.drop i)=R∧(bl=true→i<s.length∧s.getD i 0≠44∧s.getD i 0≠43)∧(fb=true↔b=[]))∧T'=[(8,.bool fb),(1,.int .i64 (i:Int)),(7,.gsl (u8s b) m L.length 1),(0,.str s)]∧L'=L++[.spare m 1]) (CutS (b:=by simp)) ⟨at0,0,[],false,true,rfl,hat,by omega,hid ⟨rfl,hR,by simp,by simp⟩,rfl,rfl⟩ ?_
 rintro _ _ _ ⟨i,m,b,bl,fb,rfl,hi,hm,hI,rfl,rfl⟩
 have e1:=fT b
 have e2:=eY b
 by_cases hlt:i<s.length
 · have g1:(i:Int)<(s.length:Int):=by omega
   have g2:IntKind.i64.wrap ((i:Int)+1)=(i:Int)+1:=ab (by omega) (by omega)
   obtain ⟨c,hc⟩:∃ c,s.getD i 0=c:=⟨_,rfl⟩
   have hdr:=uU hlt
   rw [hc] at hdr
   have hb2:=hI.out.2.1
   rw [hdr] at hb2
   by_cases hcc:c=44∨c=43
   · have hbl:bl=false:=by
       cases bl with
       | false=>rfl
       | true =>
         obtain ⟨_,n1,n2⟩:=hI.out.2.2.1 rfl
         rw [hc] at n1 n2
         rcases hcc with e|e
         · exact absurd e n1
         · exact absurd e n2
     subst hbl
     rw [HM hcc] at hb2
     have h':=h.out
     rw [← hb2] at h'
     simp only [F9] at h'
     rw [← hdr,List.length_drop,show s.length - (s.length - i)=i by omega] at h'
     replace h':=hid h'
     have k1:((c.toNat:Int)=44)∨((c.toNat:Int)=43):=hcc.imp (aL c 44).2 (aL c 43).2
     clear hb2 hcc hdr
     rcases k1 with k1|k1
     · refine wk ?_
       exact aa rfl h'.out
     · refine wk ?_
       exact aa rfl h'.out
   · have k1:¬ (c.toNat:Int)=44:=fun e=>hcc (.inl ((aL c 44).1 e))
     have k2:¬ (c.toNat:Int)=43:=fun e=>hcc (.inr ((aL c 43).1 e))
     by_cases h92:c=92
     · subst h92
       have g3:IntKind.i64.wrap ((i:Int)+1+1)=(i:Int)+1+1:=ab (by omega) (by omega)
       have g4:IntKind.i64.wrap ((i:Int)+1+2)=(i:Int)+1+2:=ab (by omega) (by omega)
       have t1:((i:Int)+1).toNat=i+1:=by omega
       have t3:((i:Int)+1+2).toNat=i+3:=by omega
       by_cases h1:i+1<s.length
       · have f1:(i:Int)+1<(s.length:Int):=by omega
         have f0:¬ (i:Int)+1=(s.length:Int):=by omega
         obtain ⟨d,hd⟩:∃ d,s.getD (i+1) 0=d:=⟨_,rfl⟩
         have hdr1:=uU h1
         rw [hd] at hdr1
         rw [hdr1] at hb2
         by_cases hsp:d∈gU
         · simp only [fF,kb hsp] at hb2
           have f2:gU.contains d=true:=List.contains_iff_mem.2 hsp
           clear hdr hdr1 hcc
           replace hb2:=hid hb2
           have kk1:=@hid _ @Cp
           have kk2:=@hid _ @Ew
           have kk3:=@hid _ @Ex
           refine wk ?_
           rw [show u8s b++[AV.int IntKind.u8 (d.toNat:Int)]=u8s (b++[d]) by simp [u8s]]
           exact an _ _ _ (by omega) (CutL (b:=by simp)) ⟨i+1+1,m+1,b++[d],false,false,rfl,h1,by omega,hid ⟨by simp [hI.out.1],hb2.out,by simp,by simp⟩,rfl,rfl⟩
         · have f2:gU.contains d=false:=by
             rw [← Bool.not_eq_true,List.contains_iff_mem];exact hsp
           by_cases h2:i+2<s.length
           · have f3:¬ (s.length:Int)<(i:Int)+1+2:=by omega
             have f4:(i:Int)+1≤(i:Int)+1+2:=by omega
             have f5:(i:Int)+1+2≤(s.length:Int):=by omega
             have f6:(0:Int)≤(i:Int)+1:=by omega
             obtain ⟨e,he⟩:∃ e,s.getD (i+2) 0=e:=⟨_,rfl⟩
             have hdr2:=uU h2
             rw [he] at hdr2
             rw [hdr2] at hb2
             simp only [fF,rq hsp] at hb2
             have hcut:(s.drop (i+1)).take (i+3 - (i+1))=[d,e]:=by
               rw [hdr1,hdr2,show i+3 - (i+1)=2 by omega];rfl
             clear hdr hdr1 hdr2 hcc
             replace hb2:=hid hb2
             have kk1:=@hid _ @Cp
             have kk2:=@hid _ @Ew
             have kk3:=@hid _ @Ex
             refine wk ?_
             refine HY ?_
             rcases hx:Aq d e with _|x
             · rw [show yc d e=.tup [.str [],.bool false] by simp only [yc,hx]]
               have h':=h.out
               rw [← hb2.out,hx] at h'
               simp only [F9] at h'
               replace h':=hid h'
               clear hx
               refine sk ?_
               refine wk ?_
               exact aa rfl h'.out
             · rw [show yc d e=.tup [.str [x],.bool true] by simp only [yc,hx]]
               have hb3:=hb2.out
               rw [hx] at hb3
               simp only at hb3
               replace hb3:=hid hb3
               have q1:[x].getD 0 0=x:=rfl
               clear hx hb2
               refine sk ?_
               refine wk ?_
               rw [show u8s b++[AV.int IntKind.u8 (x.toNat:Int)]=u8s (b++[x]) by simp [u8s]]
               exact an _ _ _ (by omega) (CutL (b:=by simp)) ⟨i+1+2,m+1,b++[x],false,false,rfl,h2,by omega,hid ⟨by simp [hI.out.1],hb3.out,by simp,by simp⟩,rfl,rfl⟩
           · have f3:(s.length:Int)<(i:Int)+1+2:=by omega
             have hnil:s.drop (i+1+1)=[]:=List.drop_eq_nil_of_le (by omega)
             rw [hnil] at hb2
             simp only [fF,vj hsp] at hb2
             have h':=h.out
             rw [← hb2] at h'
             replace h':=hid h'
             clear hdr hdr1 hb2 hcc
             have kk1:=@hid _ @Cp
             have kk2:=@hid _ @Ew
             have kk3:=@hid _ @Ex
             refine wk ?_
             exact aa rfl h'.out
       · have f1:¬ (i:Int)+1<(s.length:Int):=by omega
         have f0:(i:Int)+1=(s.length:Int):=by omega
         have f3:(s.length:Int)<(s.length:Int)+2:=by omega
         have f4:¬ (s.length:Int)<(s.length:Int):=by omega
         have g5:IntKind.i64.wrap (s.length:Int)=(s.length:Int):=ab (by omega) (by omega)
         have g6:IntKind.i64.wrap ((s.length:Int)+2)=(s.length:Int)+2:=ab (by omega) (by omega)
         have hnil:s.drop (i+1)=[]:=List.drop_eq_nil_of_le (by omega)
         rw [hnil] at hb2
         simp only [fF,vl] at hb2
         have h':=h.out
         rw [← hb2] at h'
         replace h':=hid h'
         clear hdr hb2 hcc
         have kk1:=@hid _ @Cp
         have kk2:=@hid _ @Ew
         have kk3:=@hid _ @Ex
         refine wk ?_
         exact aa rfl h'.out
     · have k3:¬ (c.toNat:Int)=92:=fun e=>h92 ((aL c 92).1 e)
       obtain ⟨p1,hp1⟩:∃ p,([34,59,60,62]:List UInt8).contains c=p:=⟨_,rfl⟩
       obtain ⟨p2,hp2⟩:∃ p,([32,35]:List UInt8).contains c=p:=⟨_,rfl⟩
       have hq1:p1=true↔c∈([34,59,60,62]:List UInt8):=by rw [← hp1,List.contains_iff_mem]
       have hq2:p2=true↔(c=32∨c=35):=by rw [← hp2,List.contains_iff_mem];simp
       replace hq1:=hid hq1
       replace hq2:=hid hq2
       have h0:=hid (aL c 0)
       have h32:=hid (aL c 32)
       have hfb:=hid hI.out.2.2.2
       obtain ⟨lst,hlst⟩:∃ lst:Bool,decide (i+1<s.length→s.getD (i+1) 0=44∨s.getD (i+1) 0=43)=lst:=⟨_,rfl⟩
       have hbad:=hid fun (e:c=0∨c∈([34,59,60,62]:List UInt8)∨(b=[]∧(c=32∨c=35)))=>(show R=none by rw [← hb2,IS hcc h92 e])
       have hend:=hid fun (e:lst=true∧c=32)=>(show R=none by
         by_cases eb:c=0∨c∈([34,59,60,62]:List UInt8)∨(b=[]∧(c=32∨c=35))
         · exact hbad.out eb
         · rw [← hb2,Cy hcc h92 eb,e.2]
           have el:=of_decide_eq_true (hlst.trans e.1)
           simp only [decide_true]
           by_cases h1:i+1<s.length
           · rw [uU h1,F8 (el h1)]
           · rw [List.drop_eq_nil_of_le (by omega),HO])
       have hgo:=hid fun (e:¬ (c=0∨c∈([34,59,60,62]:List UInt8)∨(b=[]∧(c=32∨c=35))))=>(show fF (b++[c]) (decide (c=32)) (s.drop (i+1))=R by rw [← hb2,Cy hcc h92 e])
       replace hlst:=hid hlst
       clear hdr hb2 hcc
       have bad:R=none→Fin L (.tup [.str [],.int .i64 0,.bool false]) (L++[.spare m 1]) K:=fun e=>aa rfl (by have h':=h.out;rwa [e] at h')
       replace bad:=hid bad
       by_cases h1:i+1<s.length
       · have f1:(i:Int)+1<(s.length:Int):=by omega
         have f0:¬ (i:Int)+1=(s.length:Int):=by omega
         have t1:((i:Int)+1).toNat=i+1:=by omega
         obtain ⟨d,hd⟩:∃ d,s.getD (i+1) 0=d:=⟨_,rfl⟩
         have hlst2:=hid (show lst=true↔((d.toNat:Int)=44∨(d.toNat:Int)=43) by
           rw [← hlst.out,decide_eq_true_eq,hd,show (44:Int)=((44:UInt8).toNat:Int) from rfl,show (43:Int)=((43:UInt8).toNat:Int) from rfl,aL,aL]
           exact ⟨fun e=>e h1,fun e _=>e⟩)
         repeat' first
           | refine cc ?_
           | (first|refine bs (by kernel_rfl) ?_|refine aT (by kernel_rfl) ?_|refine aU ?_|refine dw ?_|refine bY (fun _=>?_)|refine aF ?_|refine bv ?_|refine fZ (by simp) ?_|refine bz (fZ (by simp) ⟨rfl,rfl⟩) (fZ (by simp) ⟨rfl,rfl⟩) ?_|refine aD (fZ (by simp) ⟨rfl,rfl⟩) ?_)
             refine sm ?_
           | (first|refine bo (by kernel_rfl) ?_|refine bt ?_|refine bu ?_|refine ce (aE ?_))
             refine sl ?_
           | exact bZ
           | first|apply b9|apply bp|apply ca|apply bq|apply cb|apply br
           | refine aX ?_
           | first|refine aV rfl ?_|refine aW rfl ?_|refine aA rfl ?_ ?_|refine ba rfl (fun _=>?_) (fun _=>?_)|refine a8 rfl (fun _=>?_) (fun _=>?_)
           | ((first|refine ay (fun _=>?_) (fun _=>?_)|refine aC (fun _=>?_) (fun _=>?_))<;>try refine sm ?_)
           | refine And.intro trivial ?_
           | refine And.intro (by omega) ?_
           | refine aY rfl (fun _=>?_) (fun _=>?_)
           | refine And.intro ?_ ?_
         · rename_i hx
           refine bad.out ?_
           simp only [Bool.or_eq_true,Bool.and_eq_true,decide_eq_true_eq] at hx
           rcases hx with ((e|e)|⟨e,e'⟩)|e
           · exact hbad.out (.inl (h0.out.1 e))
           · exact hbad.out (.inr (.inl (hq1.out.1 e)))
           · exact hbad.out (.inr (.inr ⟨hfb.out.1 e,hq2.out.1 e'⟩))
           · exact hend.out ⟨hlst2.out.2 e.1,h32.out.1 e.2⟩
         · rename_i hx
           rw [← Bool.not_eq_true] at hx
           simp only [Bool.or_eq_true,Bool.and_eq_true,decide_eq_true_eq] at hx
           rw [show u8s b++[AV.int IntKind.u8 (c.toNat:Int)]=u8s (b++[c]) by simp [u8s]]
           refine an _ _ _ (by omega) (CutL (b:=by simp)) ⟨i+1,m+1,b++[c],decide (c=32),false,rfl,hlt,by omega,hid ⟨by simp [hI.out.1],?_,fun e=>?_,by simp⟩,rfl,rfl⟩
           · refine hgo.out fun e=>hx ?_
             rcases e with e|e|⟨e,e'⟩
             · exact .inl (.inl (.inl (h0.out.2 e)))
             · exact .inl (.inl (.inr (hq1.out.2 e)))
             · exact .inl (.inr ⟨hfb.out.2 e,hq2.out.2 e'⟩)
           · have e32:=h32.out.2 (of_decide_eq_true e)
             refine ⟨h1,?_,?_⟩
             · intro e4
               exact hx (.inr ⟨.inl (by rw [← hd,e4];rfl),e32⟩)
             · intro e4
               exact hx (.inr ⟨.inr (by rw [← hd,e4];rfl),e32⟩)
       · have f1:¬ (i:Int)+1<(s.length:Int):=by omega
         have f0:(i:Int)+1=(s.length:Int):=by omega
         have g5:IntKind.i64.wrap (s.length:Int)=(s.length:Int):=ab (by omega) (by omega)
         have hlst2:=hid (show lst=true by rw [← hlst.out,decide_eq_true_eq];exact fun e=>absurd e h1)
         repeat' first
           | refine cc ?_
           | (first|refine bs (by kernel_rfl) ?_|refine aT (by kernel_rfl) ?_|refine aU ?_|refine dw ?_|refine bY (fun _=>?_)|refine aF ?_|refine bv ?_|refine fZ (by simp) ?_|refine bz (fZ (by simp) ⟨rfl,rfl⟩) (fZ (by simp) ⟨rfl,rfl⟩) ?_|refine aD (fZ (by simp) ⟨rfl,rfl⟩) ?_)
             refine sm ?_
           | (first|refine bo (by kernel_rfl) ?_|refine bt ?_|refine bu ?_|refine ce (aE ?_))
             refine sl ?_
           | exact bZ
           | first|apply b9|apply bp|apply ca|apply bq|apply cb|apply br
           | refine aX ?_
           | first|refine aV rfl ?_|refine aW rfl ?_|refine aA rfl ?_ ?_|refine ba rfl (fun _=>?_) (fun _=>?_)|refine a8 rfl (fun _=>?_) (fun _=>?_)
           | ((first|refine ay (fun _=>?_) (fun _=>?_)|refine aC (fun _=>?_) (fun _=>?_))<;>try refine sm ?_)
           | refine And.intro trivial ?_
           | refine And.intro (by omega) ?_
           | refine aY rfl (fun _=>?_) (fun _=>?_)
           | refine And.intro ?_ ?_
         · rename_i hx
           refine bad.out ?_
           simp only [Bool.or_eq_true,Bool.and_eq_true,decide_eq_true_eq] at hx
           rcases hx with ((e|e)|⟨e,e'⟩)|e
           · exact hbad.out (.inl (h0.out.1 e))
           · exact hbad.out (.inr (.inl (hq1.out.1 e)))
           · exact hbad.out (.inr (.inr ⟨hfb.out.1 e,hq2.out.1 e'⟩))
           · exact hend.out ⟨hlst2.out,h32.out.1 e⟩
         · rename_i hx
           rw [← Bool.not_eq_true] at hx
           simp only [Bool.or_eq_true,Bool.and_eq_true,decide_eq_true_eq] at hx
           rw [show u8s b++[AV.int IntKind.u8 (c.toNat:Int)]=u8s (b++[c]) by simp [u8s]]
           refine an _ _ _ (by omega) (CutL (b:=by simp)) ⟨i+1,m+1,b++[c],decide (c=32),false,rfl,hlt,by omega,hid ⟨by simp [hI.out.1],?_,fun e=>?_,by simp⟩,rfl,rfl⟩
           · refine hgo.out fun e=>hx ?_
             rcases e with e|e|⟨e,e'⟩
             · exact .inl (.inl (.inl (h0.out.2 e)))
             · exact .inl (.inl (.inr (hq1.out.2 e)))
             · exact .inl (.inr ⟨hfb.out.2 e,hq2.out.2 e'⟩)
           · have e32:=h32.out.2 (of_decide_eq_true e)
             exact absurd (.inr e32) hx
 · have hke:i=s.length:=by omega
   subst hke
   have g1:¬ (s.length:Int)<(s.length:Int):=by omega
   have hbl:bl=false:=by
     cases bl with
     | false=>rfl
     | true=>exact absurd (hI.out.2.2.1 rfl).1 (by omega)
   subst hbl
   have h':=h.out
   rw [← hI.out.2.1,List.drop_length,IR] at h'
   simp only [F9,List.length_nil,Nat.sub_zero] at h'
   replace h':=hid h'
   refine wk ?_
   exact aa rfl h'.out
set_option maxHeartbeats 8000000
set_option maxRecDepth 100000
theorem IT:∀ (n:Nat) {s b:List UInt8} {bl:Bool} {v r:List UInt8} {ok:Bool},s.length≤n→dx b bl s=some (v,r,ok)→r <:+ s:=by
 intro n
 induction n with
 | zero =>
   intro s b bl v r ok hn h
   obtain rfl:=List.length_eq_zero_iff.1 (Nat.le_zero.1 hn)
   rw [fX] at h;cases h;exact List.suffix_refl _
 | succ n ih =>
   intro s b bl v r ok hn h
   cases s with
   | nil=>rw [fX] at h;cases h;exact List.suffix_refl _
   | cons c s =>
     simp only [List.length_cons] at hn
     by_cases hc:c=44∨c=43
     · rw [gR hc] at h;cases h;exact List.suffix_refl _
     by_cases h92:c=92
     · subst h92
       cases s with
       | nil=>rw [vl] at h;cases h
       | cons d s =>
         by_cases hd:d∈gU
         · rw [kb hd] at h
           exact (ih (by simp at hn;omega) h).trans ((List.suffix_cons _ _).trans (List.suffix_cons _ _))
         · cases s with
           | nil=>rw [vj hd] at h;cases h
           | cons e s =>
             rw [rq hd] at h
             split at h
             · cases h
             · exact (ih (by simp at hn;omega) h).trans ((List.suffix_cons _ _).trans ((List.suffix_cons _ _).trans (List.suffix_cons _ _)))
     · rw [fG hc h92] at h
       split at h
       · cases h
       · exact (ih (by omega) h).trans (List.suffix_cons _ _)
theorem HN {s v r:List UInt8} (h:fF [] false s=some (v,r)):dx [] false s=some (v,r,true):=by
 unfold fF at h
 split at h
 · rename_i e;cases h;exact e
 · cases h
theorem D5 (f:Nat) (out:List Rdn) (now:Rdn) (s:List UInt8):iM (f+1) out now s=if out.length=32∨now.length=8 then ([],9) else match fj s with
   | none=>([],4)
   | some (typ,rest)=>if gl typ=false then ([],4) else if gP now typ=true then ([],21) else match fF [] false rest with
     | none=>([],4)
     | some (v,r2)=>match r2 with
       | []=>(out++[now++[(typ,v)]],0)
       | c::s'=>if c=44 then iM f (out++[now++[(typ,v)]]) [] s' else iM f out (now++[(typ,v)]) s':=by
 rw [iM]
 congr 1
 rcases fj s with _|⟨typ,rest⟩
 · rfl
 · simp only
   congr 1
   congr 1
   unfold fF
   rcases dx [] false rest with _|⟨v,r2,ok⟩
   · rfl
   · cases ok<;>rfl
theorem Ix {s:List UInt8} {i j:Nat} (hij:i≤j) (hj:j<s.length) (hc:s.getD j 0≠61) (h:fj (s.drop i)=(fj (s.drop j)).map fun p=>((s.drop i).take (j - i)++p.1,p.2)) :
   fj (s.drop i)=(fj (s.drop (j+1))).map fun p=>((s.drop i).take (j+1 - i)++p.1,p.2):=by
 rw [h,uU hj]
 simp only [fj,if_neg hc]
 have ht:(s.drop i).take (j+1 - i)=(s.drop i).take (j - i)++[s.getD j 0]:=by
   rw [show j+1 - i=(j - i)+1 by omega,List.take_succ_eq_append_getElem (by simp;omega)]
   congr 2
   simp [show i+(j - i)=j by omega,hj]
 rw [ht]
 rcases fj (s.drop (j+1)) with _|⟨a,b⟩
 · rfl
 · simp
theorem KJ {r:Rdn} {typ:List UInt8} {i n:Nat} (hr:r.length=n) (hn:n≤8) (h1:∀ a∈r,a.1.length≤32) (h2:typ.length≤4096) {L:List Blk} {K:AV→List Blk→Prop} (h:K (.bool (gP r typ)) L) :
   ad Tryz.prog 46 [.gsl (a7 r) n i 2,.str typ] L K:=by
 subst hr
 exact dL (by simpa only [AV.frzL,AV.frz,gT] using Jd (cap:=none) (by omega) (fun a ha=>by have:=h1 a ha;omega) (by omega) h)
theorem HX {s:List UInt8} {z:Int} {at0:Nat} (hz:z=(at0:Int)) (hs:s.length≤100000) (hat:at0≤s.length) {L:List Blk} {K:AV→List Blk→Prop} (h:K (F9 s.length (fF [] false (s.drop at0))) L):ad Tryz.prog 54 [.str s,.int .i64 z] L K:=by
 subst hz;exact Ja hs hat h
theorem Fg {s:List UInt8} {L:List Blk} {K:AV→List Blk→Prop} (h:K (Jo (c8 s)) L):ad Tryz.prog 37 [.str s] L K:=by
 refine ac AT (by simp [jZ]) ?_
 simp only [jZ,aj]
 by_cases h1:4096<s.length
 · have f1:(4096:Int)<(s.length:Int):=by omega
   rw [c8,if_pos h1] at h
   replace h:=hid h
   clear h1
   refine wk ?_
   exact ao (aq h.out)
 have f1:¬ (4096:Int)<(s.length:Int):=by omega
 rw [c8,if_neg h1] at h
 have hs:=hid (show s.length≤4096 by omega)
 clear h1
 obtain ⟨R,hR⟩:∃ R,(if s=[] then ([],0) else iM (s.length+1) [] [] s)=R:=⟨_,rfl⟩
 rw [hR] at h
 replace h:=hid h
 replace hR:=hid hR
 refine wk ?_
 refine cj (l:=[]) (n:=0) 4 1 rfl (Nat.zero_mul 1).symm ?_
 refine ak (fun n T' L'=>∃ (f m i:Nat) (out:List Rdn) (X:List Blk),f=n∧i≤s.length∧m≤32∧Hid (s≠[]→s.length - i<f∧iM f out [] (s.drop i)=R)∧Hid (s=[]→out=[])∧Hid (m=out.length)∧L'[L.length]?=some (.spare m 1)∧T'=[(5,.int .i64 (i:Int)),(4,.gsl (out.map aH) m L.length 1),(0,.str s)]∧L'=L++X) (CutS (b:=by simp)) ⟨s.length+1,0,0,[],[.spare 0 1],rfl,Nat.zero_le _,by omega,hid (fun e=>⟨by omega,by have:=hR.out;rw [if_neg e] at this;simpa using this⟩),hid (fun _=>rfl),hid rfl,by simp,rfl,rfl⟩ ?_
 rintro _ _ _ ⟨f,m,i,out,X,rfl,hi,hm32,hI,hI0,hm,ho,rfl,rfl⟩
 by_cases h0:s=[]
 · have h':=h.out
   rw [← hR.out,if_pos h0] at h'
   replace h':=hid h'
   have f2:¬ (0:Int)<(s.length:Int):=by rw [h0];simp
   clear h0
   refine wk ?_
   exact ao (aa rfl h'.out)
 obtain ⟨hf,hp⟩:=hI.out h0
 have f2:(0:Int)<(s.length:Int):=by have:=List.length_pos_iff.2 h0;omega
 clear hI hI0 hR h0
 have hB:L.length<(L++X).length:=(List.getElem?_eq_some_iff.1 ho).1
 by_cases hlim:m=32
 · obtain ⟨f,rfl⟩:∃ g,f=g+1:=⟨f - 1,by omega⟩
   rw [D5,if_pos (.inl (by rw [← hm.out];exact hlim))] at hp
   have h':=h.out
   rw [← hp] at h'
   replace h':=hid h'
   have k:(m:Int)=32:=by omega
   clear hp hlim hf
   refine wk ?_
   exact dH h'.out
 have k1:¬ (m:Int)=32:=by omega
 replace hp:=hid hp
 refine wk ?_
 refine ak (fun n T' L'=>∃ (g i:Nat) (now:Rdn) (v:AV) (Z:List Blk),g=n∧g≤f∧i≤s.length∧now.length≤8∧Hid (s.length - i<g∧iM g out now (s.drop i)=R∧(∀ a∈now,a.1.length≤32)∧MN L.length now v L')∧L'[L.length]?=some (.spare m 1)∧X.length≤Z.length∧T'=[(6,v),(5,.int .i64 (i:Int)),(4,.gsl (out.map aH) m L.length 1),(0,.str s)]∧L'=L++Z) (CutS (b:=by simp)) ⟨f,i,[],_,X,rfl,Nat.le_refl _,hi,by simp,hid ⟨hf,hp.out,by simp,.inl ⟨rfl,rfl,rfl⟩⟩,ho,Nat.le_refl _,rfl,rfl⟩ ?_
 clear hp hf ho hi
 rintro _ _ _ ⟨g,i,now,v,X1,rfl,hgf,hi,hn8,hI,ho,hXZ,rfl,rfl⟩
 obtain ⟨hf,hp,ht,hv⟩:=hI.out
 clear hI
 obtain ⟨g,rfl⟩:∃ g',g=g'+1:=⟨g - 1,by omega⟩
 have hB1:L.length<(L++X1).length:=(List.getElem?_eq_some_iff.1 ho).1
 refine HI 6 2 L.length rfl hB1 hv fun p Y hBi hpi=>?_
 rw [List.append_assoc] at hpi ⊢
 have ho2:(L++(X1++Y))[L.length]?=some (.spare m 1):=by rw [← List.append_assoc,List.getElem?_append_left hB1];exact ho
 have hXZ2:X.length≤(X1++Y).length:=by simp;omega
 generalize X1++Y=Z at hpi ho2 hXZ2 ⊢
 clear ho hB1 hv hXZ X1 Y
 replace hXZ2:=hid hXZ2
 have hpl:=(List.getElem?_eq_some_iff.1 hpi).1
 have hol:=(List.getElem?_eq_some_iff.1 ho2).1
 have hz:p - L.length≠0:=by omega
 obtain ⟨c,hc⟩:∃ c:Nat,now.length=c:=⟨_,rfl⟩
 rw [D5] at hp
 rw [hc] at hp hpi hn8 ⊢
 rw [List.length_append] at hpl hol
 replace hz:=hid hz
 replace hpl:=hid hpl
 replace hol:=hid hol
 by_cases hlim2:c=8
 · rw [if_pos (.inr hlim2)] at hp
   have h':=h.out
   rw [← hp] at h'
   replace h':=hid h'
   have k:(c:Int)=8:=by omega
   clear hp hlim2
   refine wk ?_
   exact dH h'.out
 rw [if_neg (by rw [← hm.out];omega)] at hp
 have k2:¬ (c:Int)=8:=by omega
 replace hp:=hid hp
 replace ht:=hid ht
 replace hf:=hid hf
 refine wk ?_
 refine ak (fun n T' L'=>∃ j:Nat,n=s.length - j∧i≤j∧j≤s.length∧Hid (fj (s.drop i)=(fj (s.drop j)).map fun p=>((s.drop i).take (j - i)++p.1,p.2))∧T'=[(7,.int .i64 (j:Int)),(6,.gsl (a7 now) c p 2),(5,.int .i64 (i:Int)),(4,.gsl (out.map aH) m L.length 1),(0,.str s)]∧L'=L++Z) (CutS (b:=by simp)) ⟨i,rfl,Nat.le_refl _,hi,hid (by rcases fj (s.drop i) with _|⟨a,b⟩<;>simp),rfl,rfl⟩ ?_
 rintro _ _ _ ⟨j,rfl,hij,hj,hcut,rfl,rfl⟩
 by_cases hjl:j<s.length
 rotate_left
 · have hje:j=s.length:=by omega
   subst hje
   have g1:¬ (s.length:Int)<(s.length:Int):=by omega
   have e:=hcut.out
   rw [List.drop_length] at e
   simp only [fj,Option.map_none] at e
   have h':=h.out
   rw [← hp.out,e] at h'
   simp only at h'
   replace h':=hid h'
   clear e
   refine wk ?_
   exact dH h'.out
 have g1:(j:Int)<(s.length:Int):=by omega
 have g2:IntKind.i64.wrap ((j:Int)+1)=(j:Int)+1:=ab (by omega) (by omega)
 obtain ⟨x,hx⟩:∃ x,s.getD j 0=x:=⟨_,rfl⟩
 by_cases h61:x=61
 rotate_left
 · have g3:¬ (x.toNat:Int)=61:=fun e=>h61 ((aL x 61).1 e)
   have hcut':=hid (Ix hij hjl (by rw [hx];exact h61) hcut.out)
   clear h61
   refine wk ?_
   exact an _ _ _ (by omega) (CutL (b:=by simp)) ⟨j+1,rfl,by omega,hjl,hcut',rfl,rfl⟩
 subst h61
 have g3:((61:UInt8).toNat:Int)=61:=rfl
 have hcutS:fj (s.drop i)=some ((s.drop i).take (j - i),s.drop (j+1)):=by
   rw [hcut.out,uU hjl,hx]
   simp [fj]
 clear hcut
 obtain ⟨typ,htyp⟩:∃ t,(s.drop i).take (j - i)=t:=⟨_,rfl⟩
 have htl:typ.length≤4096:=by rw [← htyp];have:=hs.out;simp;omega
 have htl3:(typ.length:Int)≤100000:=by omega
 rw [htyp] at hcutS
 have hp2:=hp.out
 rw [hcutS] at hp2
 simp only at hp2
 have g4:¬ (j:Int)=(s.length:Int):=by omega
 have g5:(i:Int)≤(j:Int):=by omega
 have g6:(j:Int)≤(s.length:Int):=by omega
 replace hp2:=hid hp2
 clear hcutS hp
 cases hty:gl typ with
 | false =>
   have h':=h.out
   rw [← hp2.out,if_pos hty] at h'
   replace h':=hid h'
   have kk1:=@hid _ (fun L K=>Hh htl3 (L:=L) (K:=K))
   refine wk ?_
   exact dH h'.out
 | true =>
 have hp3:=hp2.out
 rw [if_neg (by rw [hty];simp)] at hp3
 replace hp3:=hid hp3
 clear hp2
 have hpn:=hid (show p≠L.length+Z.length by have:=hpl.out;omega)
 have b1:∀ b,(L++(Z++[b]))[p]?=some (.spare c 2):=fun b=>by
   rw [← List.append_assoc,List.getElem?_append_left (List.getElem?_eq_some_iff.1 hpi).1];exact hpi
 have b2:∀ A b,(L++(Z++[b])).set p A=L++(Z.set (p - L.length) A++[b]):=fun A b=>by
   rw [List.set_append_right _ _ (by omega),List.set_append_left _ _ (by have:=hpl.out;omega)]
 have b3:∀ A b,(L++(Z.set (p - L.length) A++[b]))[L.length]?=some (.spare m 1):=fun A b=>by
   rw [← b2,List.getElem?_set_ne (by omega),← List.append_assoc,List.getElem?_append_left (List.getElem?_eq_some_iff.1 ho2).1];exact ho2
 have b4:∀ A b,(L++(Z.set (p - L.length) A++[b]))[p]?=some A:=fun A b=>by
   rw [← b2,List.getElem?_set,if_pos rfl,if_pos (by have:=hpl.out;simp;omega)]
 have hsl:(i:Int).toNat=i:=by omega
 have kk1:=@hid _ (fun L K=>Hh htl3 (L:=L) (K:=K))
 refine wk ?_
 refine KJ hc hn8 ht.out (by omega) ?_
 cases hha:gP now typ with
 | true =>
   have h':=h.out
   rw [← hp3.out,if_pos hha] at h'
   replace h':=hid h'
   refine sk ?_
   refine wk ?_
   exact dH h'.out
 | false =>
 have hp4:=hp3.out
 rw [if_neg (by rw [hha];simp)] at hp4
 replace hp4:=hid hp4
 clear hp3
 refine sk ?_
 refine wk ?_
 refine HX (at0:=j+1) (by omega) (by have:=hs.out;omega) hjl ?_
 rcases hvl:fF [] false (s.drop (j+1)) with _|⟨w,r2⟩
 · have h':=h.out
   rw [← hp4.out,hvl] at h'
   simp only at h'
   replace h':=hid h'
   simp only [F9]
   refine sk ?_
   refine wk ?_
   exact dH h'.out
 have hp5:=hp4.out
 rw [hvl] at hp5
 simp only at hp5
 have hsuf:=IT _ (Nat.le_refl _) (HN hvl)
 have hsd:r2=s.drop (s.length - r2.length):=List.suffix_iff_eq_drop.1 (hsuf.trans (List.drop_suffix _ _))
 have hl2:r2.length≤s.length - (j+1):=by have:=hsuf.length_le;simpa using this
 obtain ⟨t,ht0⟩:∃ t,s.length - r2.length=t:=⟨_,rfl⟩
 rw [ht0] at hsd
 have htj:j<t:=by omega
 have hts:t≤s.length:=by omega
 simp only [F9,ht0]
 replace hp5:=hid hp5
 clear hp4 hvl hsuf
 replace hsd:=hid hsd
 have q1:(c+1) * 32≤140737488355328:=by omega
 have q2:c+1≤140737488355328:=by omega
 have q3:(m+1) * 24≤140737488355328:=by omega
 have q4:m+1≤140737488355328:=by omega
 have e1:a7 now++[AV.str typ,AV.str w]=a7 (now++[(typ,w)]):=(Em _ _ _).symm
 have e2:out.map aH++[AV.sl (AV.frzL (a7 now++[AV.str typ,AV.str w])) (c+1) none]=(out++[now++[(typ,w)]]).map aH:=by
   rw [e1,gT,List.map_append]
   simp [hc]
 have e3:(out++[now++[(typ,w)]]).length=m+1:=by simp [hm.out]
 have e4:(now++[(typ,w)]).length=c+1:=by simp [hc]
 have e5:∀ a∈now++[(typ,w)],a.1.length≤32:=fun a ha=>by
   rcases List.mem_append.1 ha with h|h
   · exact ht.out a h
   · rw [List.mem_singleton.1 h];exact kc hty
 have s4:∀ (W:List Blk) A,(L++W).set L.length A=L++W.set 0 A:=fun W A=>by rw [List.set_append_right _ _ (Nat.le_refl _),Nat.sub_self]
 have g7:IntKind.i64.wrap ((t:Int)+1)=(t:Int)+1:=ab (by have:=hs.out;omega) (by have:=hs.out;omega)
 replace e1:=hid e1
 replace e2:=hid e2
 replace e3:=hid e3
 replace e4:=hid e4
 replace e5:=hid e5
 cases r2 with
 | nil =>
   have h':=h.out
   rw [← hp5.out] at h'
   simp only at h'
   replace h':=hid h'
   have hte:t=s.length:=by simp at ht0;omega
   subst hte
   refine sk ?_
   refine wk ?_
   rw [e2.out]
   refine ao (aa ?_ ?_)
   · simp only [AV.frz,AV.frzL,bJ,AV.refs,AV.refsL,dm,Bool.and_self]
   · simp only [AV.frz,AV.frzL,bJ]
     have:=h'.out
     simp only [Jo,e3.out] at this
     exact this
 | cons x s' =>
   simp only at hp5
   have htl2:t<s.length:=by simp at ht0 hl2;omega
   have k3:¬ (t:Int)=(s.length:Int):=by omega
   have k4:(t:Int)<(s.length:Int):=by omega
   have hxd:=hsd.out
   rw [uU htl2] at hxd
   obtain ⟨hx1,hx2⟩:=List.cons.inj hxd
   have hx3:=hx1.symm
   replace hx2:=hid hx2
   clear hxd hx1
   by_cases hx:x=44
   · subst hx
     refine sk ?_
     refine wk ?_
     rw [e2.out]
     refine an _ _ _ ?_ (CutS (b:=?_)) ⟨g,m+1,t+1,out++[now++[(typ,w)]],_,rfl,htl2,?_,hid fun _=>⟨?_,?_⟩,hid fun e=>?_,hid e3.out.symm,?_,rfl,rfl⟩
     · omega
     · simp
     · have:=hm.out;omega
     · have:=hf.out;omega
     · rw [← hx2.out,← hp5.out,if_pos rfl]
     · rw [e] at htl2;simp at htl2
     · rw [← s4,List.getElem?_set,if_pos rfl,if_pos (by simp)]
   · have q6:¬ (x.toNat:Int)=44:=fun e=>hx ((aL x 44).1 e)
     refine sk ?_
     refine wk ?_
     rw [e1.out]
     refine an _ _ _ ?_ (CutS (b:=?_)) ⟨g,t+1,now++[(typ,w)],_,_,rfl,?_,htl2,?_,hid ⟨?_,?_,e5.out,.inr ⟨p,hBi,by rw [e4.out],by rw [e4.out];exact b4 _ _⟩⟩,b3 _ _,?_,rfl,rfl⟩
     · omega
     · have:=hXZ2.out;simp;omega
     · omega
     · rw [e4.out];omega
     · have:=hf.out;omega
     · rw [← hx2.out,← hp5.out,if_neg hx]
     · have:=hXZ2.out;simp;omega
end Go.Proofs.YtgpnbkdcdmfgcaaGreat.Av
