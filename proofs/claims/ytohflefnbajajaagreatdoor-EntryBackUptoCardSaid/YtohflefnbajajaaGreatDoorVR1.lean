/- Joined texts of the walk, made small by a program. -/
import Derived.Test.YtohflefnbajajaaGreatDoorVP4
import Derived.Test.YtohflefnbajajaaGreatDoorRows
import Derived.KernelRfl
import Derived.Test.YtohflefnbajajaaGreatDoorVD1
import Derived.Test.YtohflefnbajajaaGreatDoorVP5
import Derived.Test.YtohflefnbajajaaGreatDoorVD2
set_option linter.unusedSimpArgs false
set_option linter.unusedVariables false
set_option maxRecDepth 100000
namespace Go.Proofs.YtohflefnbajajaaGreatDoor.Av
open Go
def vn:List SOp :=
 [o1 2 (.mv (.av (.bool false)))]
def vm:List SOp :=
 [o1 6 (.mv (tm 0)),
 o1 7 (.call 51 [(tm 6)]),
 o1 3 (.mv (tm 7))]
def vl:List SOp :=
 [o1 8 (.mv (tm 3)),
 o1 9 (.len true (tm 8)),
 o1 10 (.bin .geq (tm 9) (iv 1)),
 o1 11 (.mv (tm 10)),
 .grp none 11 true
 [og 12 11 true (.mv (tm 3)),
 og 13 11 true (.len true (tm 12)),
 og 14 11 true (.bin .leq (tm 13) (iv 32))]
 15 (tm 14),
 o1 4 (.mv (tm 15))]
def vk:List SOp :=
 [o1 5 (.mv (iv 0))]
def vj:List SOp :=
 [o1 16 (.mv (tm 5)),
 o1 17 (.mv (tm 3)),
 o1 18 (.len true (tm 17)),
 o1 19 (.bin .lss (tm 16) (tm 18)),
 o1 20 (.mv (tm 19)),
 .grp none 20 true
 [og 21 20 true (.mv (tm 4))]
 22 (tm 21)]
def vi:List SOp :=
 [o1 25 (.mv (tm 3)),
 o1 26 (.mv (tm 5)),
 o1 27 (.idxS (tm 25) (tm 26)),
 o1 28 (.call 103 [(tm 27),(.av (.str [97,98,99,100,101,102,103,104,105,106,107,108,109,110,111,112,113,114,115,116,117,118,119,120,121,122]))]),
 o1 29 (.mv (tm 28)),
 .grp none 29 false
 [og 30 29 false (.mv (tm 5)),
 og 31 29 false (.bin .gtr (tm 30) (iv 0)),
 og 32 29 false (.mv (tm 31)),
 .grp (some (29,false)) 32 true
 [og 33 32 true (.mv (tm 3)),
 og 34 32 true (.mv (tm 5)),
 og 35 32 true (.idxS (tm 33) (tm 34)),
 og 36 32 true (.call 103 [(tm 35),(.av (.str [48,49,50,51,52,53,54,55,56,57,45]))])]
 37 (tm 36)]
 38 (tm 37),
 o1 4 (.mv (tm 38))]
def vh:List SOp :=
 [o1 23 (.mv (tm 5)),
 o1 24 (.bin .add (tm 23) (iv 1)),
 o1 5 (.mv (tm 24))]
def vg:List SOp :=
 [o1 39 (.mv (tm 4)),
 o1 2 (.mv (tm 39))]
def fR:aU:=⟨40,(.seq (.sreg vn [])
 (.seq (.sreg vm [true,false,false])
 (.seq (.sreg vl [true,false,false,false,false,false])
 (.seq (.seq (.sreg vk [])
 (.block 0 (.loop (.seq (.seq (.sreg vj [true,false,false,false,false,false])
 (.cond (tm 22) .skip
 (.exit 0)))
 (.seq (.block 1 (.sreg vi [true,false,false,false,false,false,false]))
 (.sreg vh [true,false,false]))))))
 (.seq (.sreg vg [true,false])
 .ret))))),[(.tmp 2)]⟩
attribute [push_cast] vn vm vl vk vj vi vh vg
theorem sS:aW Tryz.prog (fun _ _=>1) 71=some fR.raw:=by kernel_rfl
def Bo:List SOp :=
 [o1 4 (.mv (.av (.bool false)))]
def Bn:List SOp :=
 [o1 5 (.mv (iv 0))]
def Bm:List SOp :=
 [o1 6 (.mv (tm 5)),
 o1 7 (.mv (tm 1)),
 o1 8 (.len true (tm 7)),
 o1 9 (.bin .lss (tm 6) (tm 8))]
def Bl:List SOp :=
 [o1 12 (.mv (tm 1)),
 o1 13 (.mv (tm 5)),
 o1 14 (.idxS (tm 12) (tm 13)),
 o1 15 (.mv (tm 0)),
 o1 16 (.bin .eql (tm 14) (tm 15))]
def Bk:List SOp :=
 [o1 4 (.mv (.av (.bool true)))]
def Bj:List SOp :=
 [o1 10 (.mv (tm 5)),
 o1 11 (.bin .add (tm 10) (iv 1)),
 o1 5 (.mv (tm 11))]
def Bi:List SOp :=
 [o1 4 (.mv (.av (.bool false)))]
def Aq:aU:=⟨17,(.seq (.sreg Bo [])
 (.seq (.seq (.sreg Bn [])
 (.block 0 (.loop (.seq (.seq (.sreg Bm [true,false,false,false])
 (.cond (tm 9) .skip
 (.exit 0)))
 (.seq (.block 1 (.seq (.sreg Bl [true,false,false,false,false])
 (.cond (tm 16) (.seq (.sreg Bk [])
 .ret)
 .skip)))
 (.sreg Bj [true,false,false]))))))
 (.seq (.sreg Bi [])
 .ret))),[(.tmp 4)]⟩
attribute [push_cast] Bo Bn Bm Bl Bk Bj Bi
theorem GD:aW Tryz.prog (fun _ _=>1) 103=some Aq.raw:=by kernel_rfl
def yM:List SOp :=
 [o1 4 (.mv (.av (.bool false)))]
def yL:List SOp :=
 [o1 7 (.mv (tm 0)),
 o1 8 (.len false (tm 7)),
 o1 9 (.mv (iv 0))]
def yK:List SOp :=
 [o1 10 (.bin .lss (tm 9) (tm 8))]
def yJ:List SOp :=
 [o1 11 (.iaddr 2 (tm 7) (tm 9)),
 o1 12 (.load true 2 (tm 11)),
 o1 6 (.alloc [(.str []),(.str [])]),
 o0 (.store 2 (tm 6) (tm 12))]
def yI:List SOp :=
 [o1 13 (.faddr 0 (tm 6)),
 o1 14 (.load false 1 (tm 13)),
 o1 15 (.call 51 [(tm 14)]),
 o1 16 (.mv (tm 1)),
 o1 17 (.call 51 [(tm 16)]),
 o1 18 (.bin .eql (tm 15) (tm 17))]
def yH:List SOp :=
 [o1 4 (.mv (.av (.bool true)))]
def yG:List SOp :=
 [o1 19 (.bin .add (tm 9) (iv 1)),
 o1 9 (.mv (tm 19))]
def yF:List SOp :=
 [o1 4 (.mv (.av (.bool false)))]
def xe:aU:=⟨20,(.seq (.sreg yM [])
 (.seq (.seq (.sreg yL [])
 (.block 0 (.loop (.seq (.sreg yK [])
 (.seq (.cond (tm 10) .skip
 (.exit 0))
 (.seq (.block 1 (.seq (.sreg yJ [true,false,false])
 (.seq (.sreg yI [true,false,false,false,false,false])
 (.cond (tm 18) (.seq (.sreg yH [])
 .ret)
 .skip))))
 (.sreg yG [true,false])))))))
 (.seq (.sreg yF [])
 .ret))),[(.tmp 4)]⟩
attribute [push_cast] yM yL yK yJ yI yH yG yF
theorem Gi:aW Tryz.prog (fun _ _=>1) 145=some xe.raw:=by kernel_rfl
def rB:List SOp :=
 [o1 2 (.mv (.av (.sl [] 0 (some 0)))),
 o1 3 (.mv (iv 0))]
def rA:List SOp :=
 [o1 12 (.mv (tm 0)),
 o1 13 (.len true (tm 12)),
 o1 14 (.bin .gtr (tm 13) (iv 4096))]
def rz:List SOp :=
 [o1 2 (.mv (.av (.sl [] 0 (some 0)))),
 o1 3 (.mv (iv 5))]
def ry:List SOp :=
 [o1 4 (.mv (.av (.sl [] 0 (some 0))))]
def rx:List SOp :=
 [o1 5 (.mv (iv 0))]
def ru:List SOp :=
 [o1 15 (.mv (tm 0)),
 o1 16 (.len true (tm 15)),
 o1 17 (.bin .gtr (tm 16) (iv 0))]
def rt:List SOp :=
 [o1 6 (.mv (.av (.sl [] 0 (some 0))))]
def rr:List SOp :=
 [o1 18 (.mv (tm 4)),
 o1 19 (.len false (tm 18)),
 o1 20 (.bin .eql (tm 19) (iv 32))]
def rq:List SOp :=
 [o1 2 (.mv (.av (.sl [] 0 (some 0)))),
 o1 3 (.mv (iv 9))]
def rp:List SOp :=
 [o1 21 (.mv (tm 6)),
 o1 22 (.len false (tm 21)),
 o1 23 (.bin .eql (tm 22) (iv 8))]
def nR:List SOp :=
 [o1 2 (.mv (.av (.sl [] 0 (some 0)))),
 o1 3 (.mv (iv 9))]
def nQ:List SOp :=
 [o1 24 (.mv (tm 5)),
 o1 7 (.mv (tm 24))]
def nP:List SOp :=
 [o1 25 (.mv (tm 7)),
 o1 26 (.mv (tm 0)),
 o1 27 (.len true (tm 26)),
 o1 28 (.bin .lss (tm 25) (tm 27)),
 o1 29 (.mv (tm 28)),
 .grp none 29 true
 [og 30 29 true (.mv (tm 0)),
 og 31 29 true (.mv (tm 7)),
 og 32 29 true (.idxS (tm 30) (tm 31)),
 og 33 29 true (.bin .neq (tm 32) (.av (.int .u8 61)))]
 34 (tm 33)]
def nO:List SOp :=
 [o1 35 (.mv (tm 7)),
 o1 36 (.bin .add (tm 35) (iv 1)),
 o1 7 (.mv (tm 36))]
def nN:List SOp :=
 [o1 37 (.mv (tm 7)),
 o1 38 (.mv (tm 0)),
 o1 39 (.len true (tm 38)),
 o1 40 (.bin .eql (tm 37) (tm 39)),
 o1 41 (.mv (tm 40)),
 .grp none 41 false
 [og 42 41 false (.mv (tm 0)),
 og 43 41 false (.mv (tm 5)),
 og 44 41 false (.mv (tm 7)),
 og 45 41 false (.slS (tm 42) (some (tm 43)) (some (tm 44))),
 og 46 41 false (.call 71 [(tm 45)]),
 og 47 41 false (.un .not (tm 46))]
 48 (tm 47)]
def nM:List SOp :=
 [o1 2 (.mv (.av (.sl [] 0 (some 0)))),
 o1 3 (.mv (iv 4))]
def nL:List SOp :=
 [o1 49 (.mv (tm 0)),
 o1 50 (.mv (tm 5)),
 o1 51 (.mv (tm 7)),
 o1 52 (.slS (tm 49) (some (tm 50)) (some (tm 51))),
 o1 53 (.build [(.str []),(.str [])] [(0,(1,(tm 52)))]),
 o1 8 (.alloc [(.str []),(.str [])]),
 o0 (.store 2 (tm 8) (tm 53))]
def nK:List SOp :=
 [o1 54 (.mv (tm 6)),
 o1 55 (.faddr 0 (tm 8)),
 o1 56 (.load false 1 (tm 55)),
 o1 57 (.call 145 [(tm 54),(tm 56)])]
def nJ:List SOp :=
 [o1 2 (.mv (.av (.sl [] 0 (some 0)))),
 o1 3 (.mv (iv 21))]
def nI:List SOp :=
 [o1 59 (.mv (tm 0)),
 o1 60 (.mv (tm 7)),
 o1 61 (.bin .add (tm 60) (iv 1)),
 o1 62 (.call 146 [(tm 59),(tm 61)]),
 o1 58 (.mv (tm 62)),
 o1 63 (.extract (tm 58) 0),
 o1 64 (.extract (tm 58) 1),
 o1 65 (.extract (tm 58) 2),
 o1 9 (.mv (tm 63)),
 o1 10 (.mv (tm 64)),
 o1 11 (.mv (tm 65))]
def nH:List SOp :=
 [o1 66 (.mv (tm 11)),
 o1 67 (.un .not (tm 66))]
def nG:List SOp :=
 [o1 2 (.mv (.av (.sl [] 0 (some 0)))),
 o1 3 (.mv (iv 4))]
def nF:List SOp :=
 [o1 68 (.mv (tm 9)),
 o1 69 (.faddr 1 (tm 8)),
 o0 (.store 1 (tm 69) (tm 68))]
def nE:List SOp :=
 [o1 70 (.mv (tm 6)),
 o1 71 (.load true 2 (tm 8)),
 o1 72 (.bslice false 2 1 [(.str []),(.str [])] [(0,(2,(tm 71)))]),
 o1 73 (.app 1 2 32 [(.str []),(.str [])] (tm 70) (tm 72)),
 o1 6 (.mv (tm 73))]
def nD:List SOp :=
 [o1 74 (.mv (tm 10)),
 o1 5 (.mv (tm 74))]
def nC:List SOp :=
 [o1 75 (.mv (tm 5)),
 o1 76 (.mv (tm 0)),
 o1 77 (.len true (tm 76)),
 o1 78 (.bin .eql (tm 75) (tm 77)),
 o1 79 (.mv (tm 78)),
 .grp none 79 false
 [og 80 79 false (.mv (tm 0)),
 og 81 79 false (.mv (tm 5)),
 og 82 79 false (.idxS (tm 80) (tm 81)),
 og 83 79 false (.bin .eql (tm 82) (.av (.int .u8 44)))]
 84 (tm 83)]
def nB:List SOp :=
 [o1 85 (.mv (tm 5)),
 o1 86 (.bin .add (tm 85) (iv 1)),
 o1 5 (.mv (tm 86))]
def nA:List SOp :=
 [o1 87 (.mv (tm 4)),
 o1 88 (.mv (tm 6)),
 o1 89 (.bslice false 1 1 [(.sl [] 0 (some 0))] [(0,(1,(tm 88)))]),
 o1 90 (.app 1 1 24 [(.sl [] 0 (some 0))] (tm 87) (tm 89)),
 o1 4 (.mv (tm 90))]
def nz:List SOp :=
 [o1 91 (.mv (tm 5)),
 o1 92 (.mv (tm 0)),
 o1 93 (.len true (tm 92)),
 o1 94 (.bin .eql (tm 91) (tm 93))]
def ny:List SOp :=
 [o1 95 (.mv (tm 4)),
 o1 2 (.mv (tm 95)),
 o1 3 (.mv (iv 0))]
def nx:List SOp :=
 [o1 96 (.mv (tm 5)),
 o1 97 (.bin .add (tm 96) (iv 1)),
 o1 5 (.mv (tm 97))]
def nw:List SOp :=
 [o1 2 (.mv (.av (.sl [] 0 (some 0)))),
 o1 3 (.mv (iv 0))]
def kM:aU:=⟨98,(.seq (.sreg rB [])
 (.seq (.seq (.sreg rA [true,false,false])
 (.cond (tm 14) (.seq (.sreg rz [])
 .ret)
 .skip))
 (.seq (.sreg ry [])
 (.seq (.sreg rx [])
 (.seq (.block 0 (.loop (.seq (.seq (.sreg ru [true,false,false])
 (.cond (tm 17) .skip
 (.exit 0)))
 (.block 1 (.seq (.sreg rt [])
 (.seq (.seq (.sreg rr [true,false,false])
 (.cond (tm 20) (.seq (.sreg rq [])
 .ret)
 .skip))
 (.seq (.block 2 (.loop (.block 3 (.seq (.seq (.sreg rp [true,false,false])
 (.cond (tm 23) (.seq (.sreg nR [])
 .ret)
 .skip))
 (.seq (.sreg nQ [true,false])
 (.seq (.block 4 (.loop (.seq (.seq (.sreg nP [true,false,false,false,false,false])
 (.cond (tm 34) .skip
 (.exit 4)))
 (.block 5 (.sreg nO [true,false,false])))))
 (.seq (.seq (.sreg nN [true,false,false,false,false,false])
 (.cond (tm 48) (.seq (.sreg nM [])
 .ret)
 .skip))
 (.seq (.sreg nL [true,false,false,false,false,false])
 (.seq (.seq (.sreg nK [true,false,false,false])
 (.cond (tm 57) (.seq (.sreg nJ [])
 .ret)
 .skip))
 (.seq (.sreg nI [true,true,true,false,false,false,false,false,false,false,false])
 (.seq (.seq (.sreg nH [true,false])
 (.cond (tm 67) (.seq (.sreg nG [])
 .ret)
 .skip))
 (.seq (.sreg nF [false,false])
 (.seq (.sreg nE [true,false,false,false,false])
 (.seq (.sreg nD [true,false])
 (.seq (.seq (.sreg nC [true,false,false,false,false,false])
 (.cond (tm 84) (.exit 2)
 .skip))
 (.sreg nB [true,false,false]))))))))))))))))
 (.seq (.sreg nA [true,false,false,false,false])
 (.seq (.seq (.sreg nz [true,false,false,false])
 (.cond (tm 94) (.seq (.sreg ny [true,true,false])
 .ret)
 .skip))
 (.sreg nx [true,false,false]))))))))))
 (.seq (.sreg nw [])
 .ret)))))),[(.tmp 2),(.tmp 3)]⟩
attribute [push_cast] rB rA rz ry rx ru rt rr rq rp nR nQ nP nO nN nM nL nK nJ nI nH nG nF nE nD nC nB nA nz ny nx nw
theorem Dp:aW Tryz.prog (fun _ _=>1) 113=some kM.raw:=by kernel_rfl
def qO:List SOp :=
 [o1 4 (.mv (.av (.str []))),
 o1 5 (.mv (iv 0)),
 o1 6 (.mv (.av (.bool false)))]
def qN:List SOp :=
 [o1 7 (.mv (.av (.sl [] 0 (some 0))))]
def qM:List SOp :=
 [o1 8 (.mv (.av (.bool true)))]
def qK:List SOp :=
 [o1 13 (.mv (tm 1)),
 o1 14 (.mv (tm 0)),
 o1 15 (.len true (tm 14)),
 o1 16 (.bin .lss (tm 13) (tm 15)),
 o1 17 (.mv (tm 16)),
 .grp none 17 true
 [og 18 17 true (.mv (tm 0)),
 og 19 17 true (.mv (tm 1)),
 og 20 17 true (.idxS (tm 18) (tm 19)),
 og 21 17 true (.bin .neq (tm 20) (.av (.int .u8 44)))]
 22 (tm 21),
 o1 23 (.mv (tm 22)),
 .grp none 23 true
 [og 24 23 true (.mv (tm 0)),
 og 25 23 true (.mv (tm 1)),
 og 26 23 true (.idxS (tm 24) (tm 25)),
 og 27 23 true (.bin .neq (tm 26) (.av (.int .u8 43)))]
 28 (tm 27)]
def qJ:List SOp :=
 [o1 29 (.mv (tm 0)),
 o1 30 (.mv (tm 1)),
 o1 31 (.idxS (tm 29) (tm 30)),
 o1 9 (.mv (tm 31))]
def qI:List SOp :=
 [o1 32 (.mv (tm 1)),
 o1 33 (.bin .add (tm 32) (iv 1)),
 o1 1 (.mv (tm 33))]
def qH:List SOp :=
 [o1 34 (.mv (tm 1)),
 o1 35 (.mv (tm 0)),
 o1 36 (.len true (tm 35)),
 o1 37 (.bin .eql (tm 34) (tm 36)),
 o1 38 (.mv (tm 37)),
 .grp none 38 false
 [og 39 38 false (.mv (tm 0)),
 og 40 38 false (.mv (tm 1)),
 og 41 38 false (.idxS (tm 39) (tm 40)),
 og 42 38 false (.bin .eql (tm 41) (.av (.int .u8 44)))]
 43 (tm 42),
 o1 44 (.mv (tm 43)),
 .grp none 44 false
 [og 45 44 false (.mv (tm 0)),
 og 46 44 false (.mv (tm 1)),
 og 47 44 false (.idxS (tm 45) (tm 46)),
 og 48 44 false (.bin .eql (tm 47) (.av (.int .u8 43)))]
 49 (tm 48),
 o1 10 (.mv (tm 49))]
def qF:List SOp :=
 [o1 50 (.mv (tm 9)),
 o1 51 (.bin .eql (tm 50) (.av (.int .u8 92)))]
def qE:List SOp :=
 [o1 52 (.mv (tm 1)),
 o1 53 (.mv (tm 0)),
 o1 54 (.len true (tm 53)),
 o1 55 (.bin .lss (tm 52) (tm 54)),
 o1 56 (.mv (tm 55)),
 .grp none 56 true
 [og 57 56 true (.mv (tm 0)),
 og 58 56 true (.mv (tm 1)),
 og 59 56 true (.idxS (tm 57) (tm 58)),
 og 60 56 true (.call 103 [(tm 59),(.av (.str [34,43,44,59,60,62,92,32,35,61]))])]
 61 (tm 60)]
def qD:List SOp :=
 [o1 62 (.mv (tm 7)),
 o1 63 (.mv (tm 0)),
 o1 64 (.mv (tm 1)),
 o1 65 (.idxS (tm 63) (tm 64)),
 o1 66 (.bslice false 1 1 [(.int .u8 0)] [(0,(1,(tm 65)))]),
 o1 67 (.app 1 1 1 [(.int .u8 0)] (tm 62) (tm 66)),
 o1 7 (.mv (tm 67))]
def mR:List SOp :=
 [o1 68 (.mv (tm 1)),
 o1 69 (.bin .add (tm 68) (iv 1)),
 o1 1 (.mv (tm 69))]
def mQ:List SOp :=
 [o1 70 (.mv (tm 1)),
 o1 71 (.bin .add (tm 70) (iv 2)),
 o1 72 (.mv (tm 0)),
 o1 73 (.len true (tm 72)),
 o1 74 (.bin .gtr (tm 71) (tm 73))]
def mP:List SOp :=
 [o1 4 (.mv (.av (.str []))),
 o1 5 (.mv (iv 0)),
 o1 6 (.mv (.av (.bool false)))]
def mO:List SOp :=
 [o1 76 (.mv (tm 0)),
 o1 77 (.mv (tm 1)),
 o1 78 (.mv (tm 1)),
 o1 79 (.bin .add (tm 78) (iv 2)),
 o1 80 (.slS (tm 76) (some (tm 77)) (some (tm 79))),
 o1 81 (.call 175 [(tm 80)]),
 o1 75 (.mv (tm 81)),
 o1 82 (.extract (tm 75) 0),
 o1 83 (.extract (tm 75) 1),
 o1 11 (.mv (tm 82)),
 o1 12 (.mv (tm 83))]
def mN:List SOp :=
 [o1 84 (.mv (tm 12)),
 o1 85 (.un .not (tm 84))]
def mM:List SOp :=
 [o1 4 (.mv (.av (.str []))),
 o1 5 (.mv (iv 0)),
 o1 6 (.mv (.av (.bool false)))]
def mL:List SOp :=
 [o1 86 (.mv (tm 7)),
 o1 87 (.mv (tm 11)),
 o1 88 (.idxS (tm 87) (iv 0)),
 o1 89 (.bslice false 1 1 [(.int .u8 0)] [(0,(1,(tm 88)))]),
 o1 90 (.app 1 1 1 [(.int .u8 0)] (tm 86) (tm 89)),
 o1 7 (.mv (tm 90))]
def mK:List SOp :=
 [o1 91 (.mv (tm 1)),
 o1 92 (.bin .add (tm 91) (iv 2)),
 o1 1 (.mv (tm 92))]
def mJ:List SOp :=
 [o1 93 (.mv (tm 9)),
 o1 94 (.bin .eql (tm 93) (.av (.int .u8 0))),
 o1 95 (.mv (tm 94)),
 .grp none 95 false
 [og 96 95 false (.mv (tm 9)),
 og 97 95 false (.call 103 [(tm 96),(.av (.str [34,59,60,62]))])]
 98 (tm 97),
 o1 99 (.mv (tm 98)),
 .grp none 99 false
 [og 100 99 false (.mv (tm 8)),
 og 101 99 false (.mv (tm 100)),
 .grp (some (99,false)) 101 true
 [og 102 101 true (.mv (tm 9)),
 og 103 101 true (.call 103 [(tm 102),(.av (.str [32,35]))])]
 104 (tm 103)]
 105 (tm 104),
 o1 106 (.mv (tm 105)),
 .grp none 106 false
 [og 107 106 false (.mv (tm 10)),
 og 108 106 false (.mv (tm 107)),
 .grp (some (106,false)) 108 true
 [og 109 108 true (.mv (tm 9)),
 og 110 108 true (.bin .eql (tm 109) (.av (.int .u8 32)))]
 111 (tm 110)]
 112 (tm 111)]
def mI:List SOp :=
 [o1 4 (.mv (.av (.str []))),
 o1 5 (.mv (iv 0)),
 o1 6 (.mv (.av (.bool false)))]
def mH:List SOp :=
 [o1 113 (.mv (tm 7)),
 o1 114 (.mv (tm 9)),
 o1 115 (.bslice false 1 1 [(.int .u8 0)] [(0,(1,(tm 114)))]),
 o1 116 (.app 1 1 1 [(.int .u8 0)] (tm 113) (tm 115)),
 o1 7 (.mv (tm 116))]
def mG:List SOp :=
 [o1 8 (.mv (.av (.bool false)))]
def mF:List SOp :=
 [o1 117 (.mv (tm 7)),
 o1 118 (.b2s (tm 117)),
 o1 119 (.mv (tm 1)),
 o1 4 (.mv (tm 118)),
 o1 5 (.mv (tm 119)),
 o1 6 (.mv (.av (.bool true)))]
def kJ:aU:=⟨120,(.seq (.sreg qO [])
 (.seq (.sreg qN [])
 (.seq (.sreg qM [])
 (.seq (.block 0 (.loop (.seq (.seq (.sreg qK [true,false,false,false,false,false,false,false])
 (.cond (tm 28) .skip
 (.exit 0)))
 (.block 1 (.seq (.sreg qJ [true,false,false,false])
 (.seq (.sreg qI [true,false,false])
 (.seq (.sreg qH [true,false,false,false,false,false,false,false,false])
 (.seq (.seq (.sreg qF [true,false])
 (.cond (tm 51) (.seq (.sreg qE [true,false,false,false,false,false])
 (.cond (tm 61) (.seq (.sreg qD [true,false,false,false,false,false,false])
 (.sreg mR [true,false,false]))
 (.seq (.seq (.sreg mQ [true,false,false,false,false])
 (.cond (tm 74) (.seq (.sreg mP [])
 .ret)
 .skip))
 (.seq (.sreg mO [true,true,false,false,false,false,false,false,false,false,false])
 (.seq (.seq (.sreg mN [true,false])
 (.cond (tm 85) (.seq (.sreg mM [])
 .ret)
 .skip))
 (.seq (.sreg mL [true,false,false,false,false,false])
 (.sreg mK [true,false,false])))))))
 (.seq (.seq (.sreg mJ [true,false,false,false,false,false,false,false])
 (.cond (tm 112) (.seq (.sreg mI [])
 .ret)
 .skip))
 (.sreg mH [true,false,false,false,false]))))
 (.sreg mG [])))))))))
 (.seq (.sreg mF [true,true,true,false,false,false])
 .ret))))),[(.tmp 4),(.tmp 5),(.tmp 6)]⟩
attribute [push_cast] qO qN qM qK qJ qI qH qF qE qD mR mQ mP mO mN mM mL mK mJ mI mH mG mF
theorem Dm:aW Tryz.prog (fun _ _=>1) 146=some kJ.raw:=by kernel_rfl
def kk:List SOp :=
 [o1 2 (.mv (.av (.str [])))]
def kj:List SOp :=
 [o1 3 (.mv (.av (.sl [] 0 (some 0))))]
def ki:List SOp :=
 [o1 4 (.mv (iv 0))]
def kg:List SOp :=
 [o1 6 (.mv (tm 4)),
 o1 7 (.mv (tm 0)),
 o1 8 (.len true (tm 7)),
 o1 9 (.bin .lss (tm 6) (tm 8))]
def kf:List SOp :=
 [o1 12 (.mv (tm 0)),
 o1 13 (.mv (tm 4)),
 o1 14 (.idxS (tm 12) (tm 13)),
 o1 5 (.mv (tm 14))]
def ke:List SOp :=
 [o1 15 (.mv (tm 5)),
 o1 16 (.bin .eql (tm 15) (.av (.int .u8 0)))]
def kc:List SOp :=
 [o1 17 (.mv (tm 3)),
 o1 18 (.app 1 1 1 [(.int .u8 0)] (tm 17) (.av (.str [92,48,48]))),
 o1 3 (.mv (tm 18))]
def kb:List SOp :=
 [o1 19 (.mv (tm 5)),
 o1 20 (.call 103 [(tm 19),(.av (.str [34,43,44,59,60,62,92]))]),
 o1 21 (.mv (tm 20)),
 .grp none 21 false
 [og 22 21 false (.mv (tm 4)),
 og 23 21 false (.bin .eql (tm 22) (iv 0)),
 og 24 21 false (.mv (tm 23)),
 .grp (some (21,false)) 24 true
 [og 25 24 true (.mv (tm 5)),
 og 26 24 true (.call 103 [(tm 25),(.av (.str [32,35]))])]
 27 (tm 26)]
 28 (tm 27),
 o1 29 (.mv (tm 28)),
 .grp none 29 false
 [og 30 29 false (.mv (tm 4)),
 og 31 29 false (.bin .add (tm 30) (iv 1)),
 og 32 29 false (.mv (tm 0)),
 og 33 29 false (.len true (tm 32)),
 og 34 29 false (.bin .eql (tm 31) (tm 33)),
 og 35 29 false (.mv (tm 34)),
 .grp (some (29,false)) 35 true
 [og 36 35 true (.mv (tm 5)),
 og 37 35 true (.bin .eql (tm 36) (.av (.int .u8 32)))]
 38 (tm 37)]
 39 (tm 38)]
def ka:List SOp :=
 [o1 40 (.mv (tm 3)),
 o1 41 (.bslice false 1 1 [(.int .u8 0)] [(0,(1,(.av (.int .u8 92))))]),
 o1 42 (.app 1 1 1 [(.int .u8 0)] (tm 40) (tm 41)),
 o1 3 (.mv (tm 42))]
def j9:List SOp :=
 [o1 43 (.mv (tm 3)),
 o1 44 (.mv (tm 5)),
 o1 45 (.bslice false 1 1 [(.int .u8 0)] [(0,(1,(tm 44)))]),
 o1 46 (.app 1 1 1 [(.int .u8 0)] (tm 43) (tm 45)),
 o1 3 (.mv (tm 46))]
def jn:List SOp :=
 [o1 10 (.mv (tm 4)),
 o1 11 (.bin .add (tm 10) (iv 1)),
 o1 4 (.mv (tm 11))]
def jm:List SOp :=
 [o1 47 (.mv (tm 3)),
 o1 48 (.b2s (tm 47)),
 o1 2 (.mv (tm 48))]
def iy:aU:=⟨49,(.seq (.sreg kk [])
 (.seq (.sreg kj [])
 (.seq (.seq (.sreg ki [])
 (.block 0 (.loop (.seq (.seq (.sreg kg [true,false,false,false])
 (.cond (tm 9) .skip
 (.exit 0)))
 (.seq (.block 1 (.seq (.sreg kf [true,false,false,false])
 (.seq (.seq (.sreg ke [true,false])
 (.cond (tm 16) (.seq (.sreg kc [true,false,false])
 (.exit 1))
 .skip))
 (.seq (.seq (.sreg kb [true,false,false,false,false,false])
 (.cond (tm 39) (.sreg ka [true,false,false,false])
 .skip))
 (.sreg j9 [true,false,false,false,false])))))
 (.sreg jn [true,false,false]))))))
 (.seq (.sreg jm [true,false,false])
 .ret)))),[(.tmp 2)]⟩
attribute [push_cast] kk kj ki kg kf ke kc kb ka j9 jn jm
theorem Ap:aW Tryz.prog (fun _ _=>1) 176=some iy.raw:=by kernel_rfl
def vf:List SOp :=
 [o1 2 (.mv (.av (.str [])))]
def ve:List SOp :=
 [o1 3 (.mv (.av (.str [])))]
def vd:List SOp :=
 [o1 8 (.mv (tm 0)),
 o1 9 (.len false (tm 8)),
 o1 10 (.mv (iv 0))]
def vc:List SOp :=
 [o1 11 (.bin .lss (tm 10) (tm 9))]
def vb:List SOp :=
 [o1 12 (.mv (tm 10)),
 o1 13 (.iaddr 1 (tm 8) (tm 10)),
 o1 14 (.load false 1 (tm 13)),
 o1 4 (.mv (tm 12)),
 o1 5 (.mv (tm 14))]
def u9:List SOp :=
 [o1 15 (.mv (tm 4)),
 o1 16 (.bin .gtr (tm 15) (iv 0))]
def u7:List SOp :=
 [o1 17 (.mv (tm 3)),
 o1 18 (.bin .add (tm 17) (.av (.str [44]))),
 o1 3 (.mv (tm 18))]
def u6:List SOp :=
 [o1 19 (.mv (tm 5)),
 o1 20 (.len false (tm 19)),
 o1 21 (.mv (iv 0))]
def uZ:List SOp :=
 [o1 22 (.bin .lss (tm 21) (tm 20))]
def uY:List SOp :=
 [o1 23 (.mv (tm 21)),
 o1 24 (.iaddr 2 (tm 19) (tm 21)),
 o1 25 (.load true 2 (tm 24)),
 o1 7 (.alloc [(.str []),(.str [])]),
 o1 6 (.mv (tm 23)),
 o0 (.store 2 (tm 7) (tm 25))]
def qV:List SOp :=
 [o1 26 (.mv (tm 6)),
 o1 27 (.bin .gtr (tm 26) (iv 0))]
def qU:List SOp :=
 [o1 28 (.mv (tm 3)),
 o1 29 (.bin .add (tm 28) (.av (.str [43]))),
 o1 3 (.mv (tm 29))]
def qT:List SOp :=
 [o1 30 (.mv (tm 3)),
 o1 31 (.faddr 0 (tm 7)),
 o1 32 (.load false 1 (tm 31)),
 o1 33 (.bin .add (tm 30) (tm 32)),
 o1 34 (.bin .add (tm 33) (.av (.str [61]))),
 o1 35 (.faddr 1 (tm 7)),
 o1 36 (.load false 1 (tm 35)),
 o1 37 (.call 176 [(tm 36)]),
 o1 38 (.bin .add (tm 34) (tm 37)),
 o1 3 (.mv (tm 38))]
def qR:List SOp :=
 [o1 39 (.bin .add (tm 21) (iv 1)),
 o1 21 (.mv (tm 39))]
def qQ:List SOp :=
 [o1 40 (.bin .add (tm 10) (iv 1)),
 o1 10 (.mv (tm 40))]
def qP:List SOp :=
 [o1 41 (.mv (tm 3)),
 o1 2 (.mv (tm 41))]
def pc:aU:=⟨42,(.seq (.sreg vf [])
 (.seq (.sreg ve [])
 (.seq (.seq (.sreg vd [])
 (.block 0 (.loop (.seq (.sreg vc [])
 (.seq (.cond (tm 11) .skip
 (.exit 0))
 (.seq (.block 1 (.seq (.sreg vb [true,true,false,false,false])
 (.seq (.seq (.sreg u9 [true,false])
 (.cond (tm 16) (.sreg u7 [true,false,false])
 .skip))
 (.seq (.sreg u6 [])
 (.block 2 (.loop (.seq (.sreg uZ [])
 (.seq (.cond (tm 22) .skip
 (.exit 2))
 (.seq (.block 3 (.seq (.sreg uY [true,true,false,false,false])
 (.seq (.seq (.sreg qV [true,false])
 (.cond (tm 27) (.sreg qU [true,false,false])
 .skip))
 (.sdreg qT [.pure,.pure,(.read 0 0),.pure,.pure,.pure,(.read 0 0),(.read 0 0)] [true,false,false,false,false,false,false,false,false,false]))))
 (.sreg qR [true,false]))))))))))
 (.sreg qQ [true,false])))))))
 (.seq (.sreg qP [true,false])
 .ret)))),[(.tmp 2)]⟩
attribute [push_cast] vf ve vd vc vb u9 u7 u6 uZ uY qV qU qT qR qQ qP
theorem Ey:aW Tryz.prog (fun _ _=>1) 148=some pc.raw:=by kernel_rfl
def ro:List SOp :=
 [o1 2 (.mv (.av (.str []))),
 o1 3 (.mv (iv 0))]
def rn:List SOp :=
 [o1 4 (.mv (iv 0))]
def rm:List SOp :=
 [o1 9 (.mv (tm 0)),
 o1 10 (.len false (tm 9)),
 o1 11 (.mv (iv 0))]
def rl:List SOp :=
 [o1 12 (.bin .lss (tm 11) (tm 10))]
def rk:List SOp :=
 [o1 13 (.mv (tm 11)),
 o1 14 (.iaddr 1 (tm 9) (tm 11)),
 o1 15 (.load false 1 (tm 14)),
 o1 5 (.mv (tm 13)),
 o1 6 (.mv (tm 15))]
def rj:List SOp :=
 [o1 16 (.mv (tm 5)),
 o1 17 (.bin .eql (tm 16) (iv 32))]
def ri:List SOp :=
 [o1 2 (.mv (.av (.str []))),
 o1 3 (.mv (iv 9))]
def rh:List SOp :=
 [o1 18 (.mv (tm 6)),
 o1 19 (.len false (tm 18)),
 o1 20 (.bin .eql (tm 19) (iv 0))]
def rg:List SOp :=
 [o1 2 (.mv (.av (.str []))),
 o1 3 (.mv (iv 2))]
def rf:List SOp :=
 [o1 21 (.mv (tm 6)),
 o1 22 (.len false (tm 21)),
 o1 23 (.mv (iv 0))]
def nv:List SOp :=
 [o1 24 (.bin .lss (tm 23) (tm 22))]
def nu:List SOp :=
 [o1 25 (.mv (tm 23)),
 o1 26 (.iaddr 2 (tm 21) (tm 23)),
 o1 27 (.load true 2 (tm 26)),
 o1 8 (.alloc [(.str []),(.str [])]),
 o1 7 (.mv (tm 25)),
 o0 (.store 2 (tm 8) (tm 27))]
def ns:List SOp :=
 [o1 28 (.mv (tm 7)),
 o1 29 (.bin .eql (tm 28) (iv 8))]
def nr:List SOp :=
 [o1 2 (.mv (.av (.str []))),
 o1 3 (.mv (iv 9))]
def nq:List SOp :=
 [o1 30 (.faddr 0 (tm 8)),
 o1 31 (.load false 1 (tm 30)),
 o1 32 (.call 71 [(tm 31)]),
 o1 33 (.un .not (tm 32))]
def np:List SOp :=
 [o1 2 (.mv (.av (.str []))),
 o1 3 (.mv (iv 20))]
def nn:List SOp :=
 [o1 34 (.mv (tm 6)),
 o1 35 (.mv (tm 7)),
 o1 36 (.slV 2 (tm 34) none (some (tm 35)) none),
 o1 37 (.faddr 0 (tm 8)),
 o1 38 (.load false 1 (tm 37)),
 o1 39 (.call 145 [(tm 36),(tm 38)])]
def nk:List SOp :=
 [o1 2 (.mv (.av (.str []))),
 o1 3 (.mv (iv 21))]
def nj:List SOp :=
 [o1 40 (.mv (tm 4)),
 o1 41 (.faddr 1 (tm 8)),
 o1 42 (.load false 1 (tm 41)),
 o1 43 (.len true (tm 42)),
 o1 44 (.minmax false [(tm 43),(iv 5000)]),
 o1 45 (.bin .add (tm 40) (tm 44)),
 o1 4 (.mv (tm 45))]
def ni:List SOp :=
 [o1 46 (.bin .add (tm 23) (iv 1)),
 o1 23 (.mv (tm 46))]
def nh:List SOp :=
 [o1 47 (.bin .add (tm 11) (iv 1)),
 o1 11 (.mv (tm 47))]
def ng:List SOp :=
 [o1 48 (.mv (tm 4)),
 o1 49 (.bin .gtr (tm 48) (iv 4096)),
 o1 50 (.mv (tm 49)),
 .grp none 50 false
 [og 51 50 false (.mv (tm 0)),
 og 52 50 false (.call 148 [(tm 51)]),
 og 53 50 false (.len true (tm 52)),
 og 54 50 false (.bin .gtr (tm 53) (iv 4096))]
 55 (tm 54)]
def nf:List SOp :=
 [o1 2 (.mv (.av (.str []))),
 o1 3 (.mv (iv 5))]
def nd:List SOp :=
 [o1 56 (.mv (tm 0)),
 o1 57 (.call 148 [(tm 56)]),
 o1 2 (.mv (tm 57)),
 o1 3 (.mv (iv 0))]
def kL:aU:=⟨58,(.seq (.sreg ro [])
 (.seq (.sreg rn [])
 (.seq (.seq (.sreg rm [])
 (.block 0 (.loop (.seq (.sreg rl [])
 (.seq (.cond (tm 12) .skip
 (.exit 0))
 (.seq (.block 1 (.seq (.sreg rk [true,true,false,false,false])
 (.seq (.seq (.sreg rj [true,false])
 (.cond (tm 17) (.seq (.sreg ri [])
 .ret)
 .skip))
 (.seq (.seq (.sreg rh [true,false,false])
 (.cond (tm 20) (.seq (.sreg rg [])
 .ret)
 .skip))
 (.seq (.sreg rf [])
 (.block 2 (.loop (.seq (.sreg nv [])
 (.seq (.cond (tm 24) .skip
 (.exit 2))
 (.seq (.block 3 (.seq (.sreg nu [true,true,false,false,false])
 (.seq (.seq (.sreg ns [true,false])
 (.cond (tm 29) (.seq (.sreg nr [])
 .ret)
 .skip))
 (.seq (.seq (.sreg nq [true,false,false,false])
 (.cond (tm 33) (.seq (.sreg np [])
 .ret)
 .skip))
 (.seq (.seq (.sdreg nn [.pure,.pure,(.read 0 0),.pure,(.read 0 0)] [true,false,false,false,false,false])
 (.cond (tm 39) (.seq (.sreg nk [])
 .ret)
 .skip))
 (.sreg nj [true,false,false,false,false,false,false]))))))
 (.sreg ni [true,false])))))))))))
 (.sreg nh [true,false])))))))
 (.seq (.seq (.sreg ng [true,false,false,false])
 (.cond (tm 55) (.seq (.sreg nf [])
 .ret)
 .skip))
 (.seq (.sreg nd [true,true,false,false])
 .ret))))),[(.tmp 2),(.tmp 3)]⟩
attribute [push_cast] ro rn rm rl rk rj ri rh rg rf nv nu ns nr nq np nn nk nj ni nh ng nf nd
theorem Do:aW Tryz.prog (fun _ _=>1) 147=some kL.raw:=by kernel_rfl
def re:List SOp :=
 [o1 2 (.mv (.av (.sl [] 0 (some 0))))]
def rd:List SOp :=
 [o1 3 (.mv (.av (.sl [] 0 (some 0))))]
def rb:List SOp :=
 [o1 12 (.mv (tm 0)),
 o1 13 (.len false (tm 12)),
 o1 14 (.mv (iv 0))]
def ra:List SOp :=
 [o1 15 (.bin .lss (tm 14) (tm 13))]
def q9:List SOp :=
 [o1 16 (.iaddr 1 (tm 12) (tm 14)),
 o1 17 (.load false 1 (tm 16)),
 o1 5 (.mv (tm 17))]
def q0:List SOp :=
 [o1 6 (.mv (.av (.sl [] 0 (some 0))))]
def qZ:List SOp :=
 [o1 18 (.mv (tm 5)),
 o1 19 (.len false (tm 18)),
 o1 20 (.mv (iv 0))]
def qY:List SOp :=
 [o1 21 (.bin .lss (tm 20) (tm 19))]
def qX:List SOp :=
 [o1 22 (.iaddr 2 (tm 18) (tm 20)),
 o1 23 (.load true 2 (tm 22)),
 o1 8 (.alloc [(.str []),(.str [])]),
 o0 (.store 2 (tm 8) (tm 23))]
def qW:List (ah×Kd) :=
 [od 24 (.faddr 0 (tm 8)) .pure,
 od 25 (.load false 1 (tm 24)) (.read 0 1),
 od 26 (.call 51 [(tm 25)]) (.read 0 1),
 od 27 (.faddr 1 (tm 8)) .pure,
 od 28 (.load false 1 (tm 27)) (.read 0 1),
 od 29 (.call 79 [(tm 28)]) (.read 0 1),
 od 30 (.build [(.str []),(.str [])] [(0,(1,(tm 26))),(1,(1,(tm 29)))]) .pure,
 od 9 (.alloc [(.str []),(.str [])]) .eff]
def mS:List ah :=
 [⟨none,(.store 2 (tm 9) (tm 30)),none⟩]
def nb:List SOp :=
 [o1 31 (.mv (tm 6)),
 o1 32 (.len false (tm 31)),
 o1 10 (.mv (tm 32))]
def na:List SOp :=
 [o1 33 (.mv (tm 10)),
 o1 34 (.bin .gtr (tm 33) (iv 0)),
 o1 35 (.mv (tm 34)),
 .grp none 35 true
 [og 36 35 true (.mv (tm 6)),
 og 37 35 true (.mv (tm 10)),
 og 38 35 true (.bin .sub (tm 37) (iv 1)),
 og 39 35 true (.iaddr 2 (tm 36) (tm 38)),
 og 40 35 true (.faddr 0 (tm 39)),
 og 41 35 true (.load false 1 (tm 40)),
 og 42 35 true (.bin .add (tm 41) (.av (.str [61]))),
 og 43 35 true (.mv (tm 6)),
 og 44 35 true (.mv (tm 10)),
 og 45 35 true (.bin .sub (tm 44) (iv 1)),
 og 46 35 true (.iaddr 2 (tm 43) (tm 45)),
 og 47 35 true (.faddr 1 (tm 46)),
 og 48 35 true (.load false 1 (tm 47)),
 og 49 35 true (.call 176 [(tm 48)]),
 og 50 35 true (.bin .add (tm 42) (tm 49)),
 og 51 35 true (.faddr 0 (tm 9)),
 og 52 35 true (.load false 1 (tm 51)),
 og 53 35 true (.bin .add (tm 52) (.av (.str [61]))),
 og 54 35 true (.faddr 1 (tm 9)),
 og 55 35 true (.load false 1 (tm 54)),
 og 56 35 true (.call 176 [(tm 55)]),
 og 57 35 true (.bin .add (tm 53) (tm 56)),
 og 58 35 true (.bin .gtr (tm 50) (tm 57))]
 59 (tm 58)]
def m9:List SOp :=
 [o1 60 (.mv (tm 10)),
 o1 61 (.bin .sub (tm 60) (iv 1)),
 o1 10 (.mv (tm 61))]
def m8:List SOp :=
 [o1 11 (.mv (.av (.sl [] 0 (some 0))))]
def m7:List SOp :=
 [o1 62 (.mv (tm 11)),
 o1 63 (.mv (tm 6)),
 o1 64 (.mv (tm 10)),
 o1 65 (.slV 2 (tm 63) none (some (tm 64)) none),
 o1 66 (.app 1 2 32 [(.str []),(.str [])] (tm 62) (tm 65)),
 o1 11 (.mv (tm 66))]
def mZ:List SOp :=
 [o1 67 (.mv (tm 11)),
 o1 68 (.load true 2 (tm 9)),
 o1 69 (.bslice false 2 1 [(.str []),(.str [])] [(0,(2,(tm 68)))]),
 o1 70 (.app 1 2 32 [(.str []),(.str [])] (tm 67) (tm 69)),
 o1 11 (.mv (tm 70))]
def mY:List SOp :=
 [o1 71 (.mv (tm 11)),
 o1 72 (.mv (tm 6)),
 o1 73 (.mv (tm 10)),
 o1 74 (.slV 2 (tm 72) (some (tm 73)) none none),
 o1 75 (.app 1 2 32 [(.str []),(.str [])] (tm 71) (tm 74)),
 o1 11 (.mv (tm 75))]
def mX:List SOp :=
 [o1 76 (.mv (tm 11)),
 o1 6 (.mv (tm 76))]
def mW:List SOp :=
 [o1 77 (.bin .add (tm 20) (iv 1)),
 o1 20 (.mv (tm 77))]
def mV:List SOp :=
 [o1 78 (.mv (tm 3)),
 o1 79 (.mv (tm 6)),
 o1 80 (.bslice false 1 1 [(.sl [] 0 (some 0))] [(0,(1,(tm 79)))]),
 o1 81 (.app 1 1 24 [(.sl [] 0 (some 0))] (tm 78) (tm 80)),
 o1 3 (.mv (tm 81))]
def mU:List SOp :=
 [o1 82 (.bin .add (tm 14) (iv 1)),
 o1 14 (.mv (tm 82))]
def mT:List SOp :=
 [o1 83 (.mv (tm 3)),
 o1 2 (.mv (tm 83))]
def kK:aU:=⟨84,(.seq (.sreg re [])
 (.seq (.sreg rd [])
 (.seq (.seq (.sreg rb [])
 (.block 0 (.loop (.seq (.sreg ra [])
 (.seq (.cond (tm 15) .skip
 (.exit 0))
 (.seq (.block 1 (.seq (.sreg q9 [true,false,false])
 (.seq (.sreg q0 [])
 (.seq (.seq (.sreg qZ [])
 (.block 2 (.loop (.seq (.sreg qY [])
 (.seq (.cond (tm 21) .skip
 (.exit 2))
 (.seq (.block 3 (.seq (.sreg qX [true,false,false])
 (.seq (.dregM qW mS [true,false,false,false,false,false,false,false])
 (.seq (.sreg nb [true,false,false])
 (.seq (.block 4 (.loop (.seq (.seq (.sdreg na [.pure,.pure,.pure,.pure,.pure,.pure,(.read 0 0),.pure,(.read 0 0),.pure,.pure,.pure,.pure,(.read 0 0),.pure,(.read 0 0),(.read 0 0),.pure,.pure,(.read 0 0),.pure,.pure,(.read 0 0),(.read 0 0),.pure] [true,false,false,false])
 (.cond (tm 59) .skip
 (.exit 4)))
 (.block 5 (.sreg m9 [true,false,false])))))
 (.seq (.sreg m8 [])
 (.seq (.sreg m7 [true,false,false,false,false,false])
 (.seq (.sreg mZ [true,false,false,false,false])
 (.seq (.sreg mY [true,false,false,false,false,false])
 (.sreg mX [true,false]))))))))))
 (.sreg mW [true,false])))))))
 (.sreg mV [true,false,false,false,false])))))
 (.sreg mU [true,false])))))))
 (.seq (.sreg mT [true,false])
 .ret)))),[(.tmp 2)]⟩
attribute [push_cast] re rd rb ra q9 q0 qZ qY qX qW mS nb na m9 m8 m7 mZ mY mX mW mV mU mT
theorem Dn:aW Tryz.prog (fun _ _=>1) 149=some kK.raw:=by kernel_rfl
def vt:List SOp :=
 [o1 2 (.mv (.av (.str []))),
 o1 3 (.mv (iv 0))]
def vr:List SOp :=
 [o1 7 (.mv (tm 0)),
 o1 8 (.call 147 [(tm 7)]),
 o1 6 (.mv (tm 8)),
 o1 9 (.extract (tm 6) 0),
 o1 10 (.extract (tm 6) 1),
 o1 4 (.mv (tm 9)),
 o1 5 (.mv (tm 10))]
def vq:List SOp :=
 [o1 11 (.mv (tm 5)),
 o1 12 (.bin .neq (tm 11) (iv 0))]
def vp:List SOp :=
 [o1 13 (.mv (tm 5)),
 o1 2 (.mv (.av (.str []))),
 o1 3 (.mv (tm 13))]
def vo:List SOp :=
 [o1 14 (.mv (tm 0)),
 o1 15 (.call 149 [(tm 14)]),
 o1 16 (.call 148 [(tm 15)]),
 o1 2 (.mv (tm 16)),
 o1 3 (.mv (iv 0))]
def pf:aU:=⟨17,(.seq (.sreg vt [])
 (.seq (.sreg vr [true,false,false,false,false,false,false])
 (.seq (.seq (.sreg vq [true,false])
 (.cond (tm 12) (.seq (.sreg vp [true,true,false])
 .ret)
 .skip))
 (.seq (.sreg vo [true,true,false,false,false])
 .ret)))),[(.tmp 2),(.tmp 3)]⟩
attribute [push_cast] vt vr vq vp vo
theorem Ez:aW Tryz.prog (fun _ _=>1) 114=some pf.raw:=by kernel_rfl
def yR:List SOp :=
 [o1 2 (.mv (.av (.str []))),
 o1 3 (.mv (iv 0))]
def yQ:List SOp :=
 [o1 7 (.mv (tm 0)),
 o1 8 (.call 113 [(tm 7)]),
 o1 6 (.mv (tm 8)),
 o1 9 (.extract (tm 6) 0),
 o1 10 (.extract (tm 6) 1),
 o1 4 (.mv (tm 9)),
 o1 5 (.mv (tm 10))]
def yP:List SOp :=
 [o1 11 (.mv (tm 5)),
 o1 12 (.bin .neq (tm 11) (iv 0))]
def yO:List SOp :=
 [o1 13 (.mv (tm 5)),
 o1 2 (.mv (.av (.str []))),
 o1 3 (.mv (tm 13))]
def yN:List SOp :=
 [o1 14 (.mv (tm 4)),
 o1 15 (.call 114 [(tm 14)]),
 o1 16 (.extract (tm 15) 0),
 o1 17 (.extract (tm 15) 1),
 o1 2 (.mv (tm 16)),
 o1 3 (.mv (tm 17))]
def xf:aU:=⟨18,(.seq (.sreg yR [])
 (.seq (.sreg yQ [true,true,false,false,false,false,false])
 (.seq (.seq (.sreg yP [true,false])
 (.cond (tm 12) (.seq (.sreg yO [true,true,false])
 .ret)
 .skip))
 (.seq (.sreg yN [true,true,false,false,false,false])
 .ret)))),[(.tmp 2),(.tmp 3)]⟩
attribute [push_cast] yR yQ yP yO yN
theorem Gj:aW Tryz.prog (fun _ _=>1) 81=some xf.raw:=by kernel_rfl
set_option maxHeartbeats 8000000
set_option maxRecDepth 100000
theorem gI {l:List UInt8} {x:UInt8} (hn:l.length≤1000000) {L:List Blk} {K:AV→List Blk→Prop} (h:K (.bool (l.contains x)) L) :
   af Tryz.prog 103 [.int .u8 x.toNat,.str l] L K:=by
 replace h:=hid h
 refine ai GD (by simp [Aq]) ?_
 simp only [Aq,ar]
 refine wk ?_
 refine am (fun n T' L'=>∃ (i:Nat),n=l.length - i∧i≤l.length∧Hid (∀ j,j<i→l.getD j 0≠x)∧T'=[(5,.int .i64 (i:Int)),(0,.int .u8 x.toNat),(1,.str l)]∧L=L') (CutS (b:=Nat.le_refl _)) ⟨0,rfl,Nat.zero_le _,hid (by simp),rfl,rfl⟩ ?_
 rintro _ _ _ ⟨i,rfl,hi,hno,rfl,rfl⟩
 by_cases hlt:i<l.length
 · have h1:(i:Int)<(l.length:Int):=by omega
   have h2:IntKind.i64.wrap ((i:Int)+1)=(i:Int)+1:=ab (by omega) (by omega)
   obtain ⟨p,hp⟩:∃ p,l.getD i 0=p:=⟨_,rfl⟩
   by_cases hpq:p=x
   · have hc:l.contains x=true:=by
       rw [List.contains_iff_mem,← hpq,← hp,List.getD_eq_getElem?_getD,List.getElem?_eq_getElem hlt]
       exact List.getElem_mem _
     have h':=h.out
     rw [hc] at h'
     replace h':=hid h'
     clear hc
     subst hpq
     refine wk ?_
     exact aa h'.out
   · have k1:¬ (p.toNat:Int)=(x.toNat:Int):=fun e=>hpq ((aZ p x).1 e)
     have hp':=hid hp
     refine wk ?_
     refine aj _ _ _ (by omega) (CutS (b:=Nat.le_refl _)) ⟨i+1,rfl,hlt,hid fun j hj=>?_,rfl,rfl⟩
     rcases Nat.lt_or_ge j i with e|e
     · exact hno.out j e
     · have:j=i:=by omega
       subst this
       rw [hp];exact hpq
 · have hke:i=l.length:=by omega
   subst hke
   have h1:¬ (l.length:Int)<(l.length:Int):=by omega
   have hc:l.contains x=false:=by
     rw [← Bool.not_eq_true,List.contains_iff_mem]
     intro hm
     obtain ⟨j,hj,e⟩:=List.mem_iff_getElem.1 hm
     exact hno.out j hj (by simp [hj,e])
   have h':=h.out
   rw [hc] at h'
   replace h':=hid h'
   clear hc
   refine wk ?_
   exact aa h'.out
abbrev ii:List UInt8:=[97,98,99,100,101,102,103,104,105,106,107,108,109,110,111,112,113,114,115,116,117,118,119,120,121,122]
abbrev Hl:List UInt8:=[48,49,50,51,52,53,54,55,56,57,45]
theorem S1:∀ n:_root_.Fin 256,ii.contains (ie (UInt8.ofNat n.val))=kz (n.val:Int)∧(ii.contains (ie (UInt8.ofNat n.val)) || Hl.contains (ie (UInt8.ofNat n.val)))=CP (n.val:Int):=by decide +kernel
theorem HQ (c:UInt8):ii.contains (ie c)=kz (c.toNat:Int)∧(ii.contains (ie c) || Hl.contains (ie c))=CP (c.toNat:Int):=by
 have:=S1 ⟨c.toNat,c.toNat_lt⟩
 simpa using this
def okC (j:Nat) (c:UInt8):Bool:=ii.contains (ie c) || (decide (0<j) && Hl.contains (ie c))
theorem MU (s:List UInt8):fV s=true↔(1≤s.length∧s.length≤32)∧∀ j,j<s.length→okC j (s.getD j 0)=true:=by
 simp only [fV,Bool.and_eq_true,decide_eq_true_eq,List.all_eq_true]
 constructor
 · rintro ⟨⟨⟨h1,h2⟩,h3⟩,h4⟩
   refine ⟨⟨h1,h2⟩,fun j hj=>?_⟩
   obtain ⟨e1,e2⟩:=HQ (s.getD j 0)
   by_cases h0:j=0
   · subst h0
     rw [okC,e1,h3];rfl
   · have hm:s.getD j 0∈s:=by simp [hj]
     have:=h4 _ hm
     rw [← e2] at this
     rw [okC,show decide (0<j)=true by simp;omega,Bool.true_and]
     exact this
 · rintro ⟨⟨h1,h2⟩,h3⟩
   refine ⟨⟨⟨h1,h2⟩,?_⟩,fun c hc=>?_⟩
   · have:=h3 0 (by omega)
     rw [okC] at this
     simp only [Nat.lt_irrefl,decide_false,Bool.false_and,Bool.or_false] at this
     rw [← (HQ _).1];exact this
   · obtain ⟨j,hj,rfl⟩:=List.mem_iff_getElem.1 hc
     have:=h3 j hj
     have e:s.getD j 0=s[j]:=by simp [hj]
     rw [e,okC] at this
     rw [← (HQ _).2]
     cases hl:ii.contains (ie s[j]) with
     | true=>rfl
     | false =>
       rw [hl,Bool.false_or,Bool.and_eq_true] at this
       rw [this.2];rfl
theorem EO {s:List UInt8} (hs:(s.length:Int)≤100000) {L:List Blk} {K:AV→List Blk→Prop} (h:K (.bool (fV s)) L):af Tryz.prog 71 [.str s] L K:=by
 replace h:=hid h
 obtain ⟨t,ht⟩:∃ t,ae s=t:=⟨_,rfl⟩
 have htl:t.length=s.length:=by rw [← ht];simp [ae]
 have hg:∀ j,j<s.length→t.getD j 0=ie (s.getD j 0):=fun j hj=>by rw [← ht];simp [ae,hj]
 replace htl:=hid htl
 replace hg:=hid hg
 have hit:=hid (MU s)
 refine ai sS (by simp [fR]) ?_
 simp only [fR,ar]
 refine wk ?_
 refine fG hs ?_
 rw [ht]
 refine sk ?_
 refine wk ?_
 refine am (fun n T' L'=>∃ (i:Nat) (b:Bool),n=s.length+1 - i∧i≤s.length∧Hid (b=true↔(1≤s.length∧s.length≤32)∧∀ j,j<i→okC j (s.getD j 0)=true)∧T'=[(5,.int .i64 (i:Int)),(4,.bool b),(3,.str t)]∧L=L') (CutS (b:=Nat.le_refl _)) ⟨0,_,rfl,Nat.zero_le _,hid (by have:=htl.out;simp;omega),rfl,rfl⟩ ?_
 rintro _ _ _ ⟨i,b,rfl,hi,hb,rfl,rfl⟩
 have htl':=htl.out
 by_cases hlt:i<s.length
 · have g1:(i:Int)<(t.length:Int):=by omega
   have g2:IntKind.i64.wrap ((i:Int)+1)=(i:Int)+1:=ab (by omega) (by omega)
   have g3:=hg.out i hlt
   obtain ⟨c,hc⟩:∃ c,s.getD i 0=c:=⟨_,rfl⟩
   rw [hc] at g3
   replace hc:=hid hc
   clear htl'
   cases b with
   | false =>
     have hf:fV s=false:=by
       rw [← Bool.not_eq_true,hit.out]
       intro ⟨q1,q2⟩
       have:=hb.out.2 ⟨q1,fun j hj=>q2 j (by omega)⟩
       cases this
     have h':=h.out
     rw [hf] at h'
     replace h':=hid h'
     clear hf
     refine wk ?_
     exact aa h'.out
   | true =>
     have hnext:okC i c=true↔((1≤s.length∧s.length≤32)∧∀ j,j<i+1→okC j (s.getD j 0)=true):=by
       have hb1:=hb.out.1 rfl
       constructor
       · intro e
         refine ⟨hb1.1,fun j hj=>?_⟩
         rcases Nat.lt_or_ge j i with q|q
         · exact hb1.2 j q
         · have:j=i:=by omega
           subst this;rw [hc.out];exact e
       · rintro ⟨_,e⟩
         have:=e i (by omega)
         rwa [hc.out] at this
     replace hnext:=hid hnext
     have hok:okC i c=(ii.contains (ie c) || (decide (0<i) && Hl.contains (ie c))):=rfl
     replace hok:=hid hok
     refine wk ?_
     refine gI (by simp) ?_
     cases hl:ii.contains (ie c) with
     | true =>
       have hk:=hid (show okC i c=true by rw [hok.out,hl];rfl)
       refine sk ?_
       refine wk ?_
       exact aj _ _ _ (by omega) (CutL (b:=Nat.le_refl _)) ⟨i+1,true,rfl,hlt,hid (by rw [← hnext.out,hk.out]),rfl,rfl⟩
     | false =>
       by_cases h0:i=0
       · have hk:=hid (show okC i c=false by rw [hok.out,hl,h0];rfl)
         have k0:¬ (0:Int)<(i:Int):=by omega
         clear h0
         refine sk ?_
         refine wk ?_
         exact aj _ _ _ (by omega) (CutL (b:=Nat.le_refl _)) ⟨i+1,false,rfl,hlt,hid (by rw [← hnext.out,hk.out]),rfl,rfl⟩
       · have hk:=hid (show okC i c=Hl.contains (ie c) by rw [hok.out,hl,show decide (0<i)=true by simp;omega];simp)
         have k0:(0:Int)<(i:Int):=by omega
         clear h0
         refine sk ?_
         repeat' first
           | refine a8 ?_
           | (first|refine aM (by kernel_rfl) ?_|refine aA (by kernel_rfl) ?_|refine aB ?_|refine bV ?_|refine bc (fun _=>?_)|refine au ?_|refine aT ?_)
             refine sm ?_
           | (first|refine aP (by kernel_rfl) ?_|refine aN ?_|refine aO ?_|refine ba (ax ?_))
             refine sl ?_
           | exact bd
           | first|apply be|apply aQ|apply bf|apply aR|apply bg|apply aS
           | refine aC ?_
           | first|refine aD rfl ?_|refine aE rfl ?_|refine ao rfl ?_ ?_|refine aH rfl (fun _=>?_) (fun _=>?_)|refine aG rfl (fun _=>?_) (fun _=>?_)
           | ((first|refine an (fun _=>?_) (fun _=>?_)|refine aw (fun _=>?_) (fun _=>?_))<;>try refine sm ?_)
           | refine And.intro trivial ?_
           | refine And.intro (by omega) ?_
           | refine aI rfl (fun _=>?_) (fun _=>?_)
           | refine And.intro ?_ ?_
         refine aK (gI (by simp) ⟨rfl,rfl⟩) ?_
         simp only [Kon,push_cast,reduceIte,Nat.reduceEqDiff,Nat.reduceAdd,Nat.reduceMul,Nat.reduceSub,Nat.reduceLT,Nat.reduceLeDiff,Int.reduceLT,Int.reduceLE,Int.reduceAdd,Int.reduceSub,Int.reduceNeg,Int.reduceToNat,Int.reduceEq,reduceCtorEq, *]
         repeat' first
           | refine a8 ?_
           | (first|refine aM (by kernel_rfl) ?_|refine aA (by kernel_rfl) ?_|refine aB ?_|refine bV ?_|refine bc (fun _=>?_)|refine au ?_|refine aT ?_)
             refine sm ?_
           | (first|refine aP (by kernel_rfl) ?_|refine aN ?_|refine aO ?_|refine ba (ax ?_))
             refine sl ?_
           | exact bd
           | first|apply be|apply aQ|apply bf|apply aR|apply bg|apply aS
           | refine aC ?_
           | first|refine aD rfl ?_|refine aE rfl ?_|refine ao rfl ?_ ?_|refine aH rfl (fun _=>?_) (fun _=>?_)|refine aG rfl (fun _=>?_) (fun _=>?_)
           | ((first|refine an (fun _=>?_) (fun _=>?_)|refine aw (fun _=>?_) (fun _=>?_))<;>try refine sm ?_)
           | refine And.intro trivial ?_
           | refine And.intro (by omega) ?_
           | refine aI rfl (fun _=>?_) (fun _=>?_)
           | refine And.intro ?_ ?_
         exact aj _ _ _ (by omega) (CutL (b:=Nat.le_refl _)) ⟨i+1,Hl.contains (ie c),rfl,hlt,hid (by rw [← hnext.out,hk.out]),rfl,rfl⟩
 · have hke:i=s.length:=by omega
   subst hke
   have g1:¬ (s.length:Int)<(t.length:Int):=by omega
   have hfin:b=fV s:=by
     have e:=hb.out.trans hit.out.symm
     cases b<;>cases hs':fV s<;>simp_all
   have h':=h.out
   rw [← hfin] at h'
   replace h':=hid h'
   clear hfin
   clear htl'
   refine wk ?_
   exact aa h'.out
set_option maxHeartbeats 8000000
set_option maxRecDepth 100000
theorem Nd {r:List Ava} {typ:List UInt8} {cap:Option Nat} (hn:r.length≤100000) (h1:∀ a∈r,(a.1.length:Int)≤100000) (h2:(typ.length:Int)≤100000) {L:List Blk} {K:AV→List Blk→Prop} (h:K (.bool (iT r typ)) L) :
   af Tryz.prog 145 [JQ r cap,.str typ] L K:=by
 replace h:=hid h
 replace h1:=hid h1
 refine ai Gi (by simp [xe]) ?_
 simp only [xe,ar]
 refine wk ?_
 refine am (fun n T' L'=>∃ (k:Nat) (Z:List Blk),n=r.length - k∧k≤r.length∧Hid (iT (r.take k) typ=false)∧T'=[(9,.int .i64 (k:Int)),(8,.int .i64 r.length),(7,JQ r cap),(1,.str typ)]∧L'=L++Z) (CutS (b:=by simp)) ⟨0,[],rfl,Nat.zero_le _,hid rfl,rfl,by simp⟩ ?_
 rintro _ _ _ ⟨k,Z,rfl,hk,hf,rfl,rfl⟩
 by_cases hlt:k<r.length
 · have g1:(k:Int)<(r.length:Int):=by omega
   have g2:IntKind.i64.wrap ((k:Int)+1)=(k:Int)+1:=ab (by omega) (by omega)
   have e1:=eM hlt
   have e2:k * 2+2≤(aJ r).length:=by rw [di];omega
   obtain ⟨⟨ty,va⟩,ha⟩:∃ a,r.getD k ([],[])=a:=⟨_,rfl⟩
   have ham:(ty,va)∈r:=by rw [← ha];simp [hlt]
   have htk:r.take (k+1)=r.take k++[(ty,va)]:=by rw [List.take_succ_eq_append_getElem hlt,← ha];simp [hlt]
   rw [ha] at e1
   simp only [jB] at e1
   have hs:iT (r.take (k+1)) typ=decide (ae ty=ae typ):=by
     have:=hf.out
     simp only [iT] at this ⊢
     rw [htk,List.any_append,this];simp
   have ha1:=h1.out _ ham
   simp only at ha1
   have hall:ae ty=ae typ→iT r typ=true:=fun e=>List.any_eq_true.2 ⟨_,ham,by simpa using e⟩
   replace hall:=hid hall
   replace hs:=hid hs
   clear ha ham htk
   by_cases hq:ae ty=ae typ
   · have h':=h.out
     rw [hall.out hq] at h'
     replace h':=hid h'
     have kk1:=@hid _ (fun L K=>fG ha1 (L:=L) (K:=K))
     have kk2:=@hid _ (fun L K=>fG h2 (L:=L) (K:=K))
     refine wk ?_
     exact ad rfl h'.out
   · have kk1:=@hid _ (fun L K=>fG ha1 (L:=L) (K:=K))
     have kk2:=@hid _ (fun L K=>fG h2 (L:=L) (K:=K))
     refine wk ?_
     exact aj _ _ _ (by omega) (CutL (b:=by simp)) ⟨k+1,_,rfl,hlt,hid (by rw [hs.out];simpa using hq),rfl,rfl⟩
 · have hke:k=r.length:=by omega
   subst hke
   have g1:¬ (r.length:Int)<(r.length:Int):=by omega
   have hn':=hf.out
   rw [List.take_length] at hn'
   have h':=h.out
   rw [hn'] at h'
   replace h':=hid h'
   clear hn'
   refine wk ?_
   exact ad rfl h'.out
set_option maxHeartbeats 8000000
set_option maxRecDepth 100000
theorem gr {s:List UInt8} (hs:s.length≤100000) {L:List Blk} {K:AV→List Blk→Prop} (h:K (.str (fX s)) L):af Tryz.prog 176 [.str s] L K:=by
 replace h:=hid h
 refine ai Ap (by simp [iy]) ?_
 simp only [iy,ar]
 refine wk ?_
 refine dr (l:=[]) (n:=0) 3 1 rfl (Nat.zero_mul 1).symm ?_
 refine am (fun n T' L'=>∃ (i m:Nat) (b:List UInt8),n=s.length - i∧i≤s.length∧m≤3 * i∧Hid (m=b.length∧b++wrL s.length i (s.drop i)=fX s)∧T'=[(4,.int .i64 (i:Int)),(3,.gsl (u8s b) m L.length 1),(0,.str s)]∧L'=L++[.spare m 1]) (CutS (b:=by simp)) ⟨0,0,[],rfl,Nat.zero_le _,by omega,hid ⟨rfl,rfl⟩,rfl,rfl⟩ ?_
 rintro _ _ _ ⟨i,m,b,rfl,hi,hm,hb,rfl,rfl⟩
 by_cases hlt:i<s.length
 · have g1:(i:Int)<(s.length:Int):=by omega
   have g2:IntKind.i64.wrap ((i:Int)+1)=(i:Int)+1:=ab (by omega) (by omega)
   obtain ⟨c,hc⟩:∃ c,s.getD i 0=c:=⟨_,rfl⟩
   have hdr:=gn hlt
   rw [hc] at hdr
   have hb2:=hb.out.2
   rw [hdr] at hb2
   simp only [wrL] at hb2
   clear hdr
   replace hb2:=hid hb2
   obtain ⟨p1,hp1⟩:∃ p,([34,43,44,59,60,62,92]:List UInt8).contains c=p:=⟨_,rfl⟩
   obtain ⟨p2,hp2⟩:∃ p,([32,35]:List UInt8).contains c=p:=⟨_,rfl⟩
   have hq1:p1=true↔c∈([34,43,44,59,60,62,92]:List UInt8):=by rw [← hp1,List.contains_iff_mem]
   have hq2:p2=true↔(c=32∨c=35):=by rw [← hp2,List.contains_iff_mem];simp
   replace hq1:=hid hq1
   replace hq2:=hid hq2
   repeat' first
     | refine a8 ?_
     | (first|refine aM (by kernel_rfl) ?_|refine aA (by kernel_rfl) ?_|refine aB ?_|refine bV ?_|refine bc (fun _=>?_)|refine au ?_|refine aT ?_|refine gI (by simp) ?_|refine aV (gI (by simp) ⟨rfl,rfl⟩) (gI (by simp) ⟨rfl,rfl⟩) ?_|refine aK (gI (by simp) ⟨rfl,rfl⟩) ?_)
       refine sm ?_
     | (first|refine aP (by kernel_rfl) ?_|refine aN ?_|refine aO ?_|refine ba (ax ?_))
       refine sl ?_
     | exact bd
     | first|apply be|apply aQ|apply bf|apply aR|apply bg|apply aS
     | refine aC ?_
     | first|refine aD rfl ?_|refine aE rfl ?_|refine ao rfl ?_ ?_|refine aH rfl (fun _=>?_) (fun _=>?_)|refine aG rfl (fun _=>?_) (fun _=>?_)
     | ((first|refine an (fun _=>?_) (fun _=>?_)|refine aw (fun _=>?_) (fun _=>?_))<;>try refine sm ?_)
     | refine And.intro trivial ?_
     | refine And.intro (by omega) ?_
     | refine aI rfl (fun _=>?_) (fun _=>?_)
     | refine And.intro ?_ ?_
   · rfl
   · omega
   · rename_i h0
     have hc0:=(aZ c 0).1 h0
     rw [show u8s b++AV.frzL (u8s [92,48,48])=u8s (b++[92,48,48]) by simp [u8s,AV.frzL,AV.frz]]
     refine aj _ _ _ (by omega) (CutL (b:=by simp)) ⟨i+1,m+3,b++[92,48,48],rfl,hlt,by omega,hid ⟨by simp [hb.out.1],?_⟩,rfl,rfl⟩
     rw [← hb2.out,wrB,if_pos hc0,List.append_assoc]
   · rename_i h0 h1
     have hc0:¬ c=0:=fun e=>h0 ((aZ c 0).2 e)
     have hq:(i=0∧(c=32∨c=35))∨(i+1=s.length∧c=32)∨c∈[34,43,44,59,60,62,92]:=by
       simp only [Bool.or_eq_true,Bool.and_eq_true,decide_eq_true_eq] at h1
       rcases h1 with (e|⟨e1,e2⟩)|⟨e1,e2⟩
       · exact .inr (.inr (hq1.out.1 e))
       · exact .inl ⟨by omega,hq2.out.1 e2⟩
       · exact .inr (.inl ⟨by omega,(aZ c 32).1 e2⟩)
     rw [show u8s b++[AV.int IntKind.u8 92,AV.int IntKind.u8 (c.toNat:Int)]=u8s (b++[92,c]) by simp [u8s]]
     refine aj _ _ _ (by omega) (CutL (b:=by simp)) ⟨i+1,m+1+1,b++[92,c],rfl,hlt,by omega,hid ⟨by simp [hb.out.1],?_⟩,rfl,rfl⟩
     rw [← hb2.out,wrB,if_neg hc0,if_pos hq,List.append_assoc]
   · rename_i h0 h1
     have hc0:¬ c=0:=fun e=>h0 ((aZ c 0).2 e)
     have hq:¬ ((i=0∧(c=32∨c=35))∨(i+1=s.length∧c=32)∨c∈[34,43,44,59,60,62,92]):=fun hq=>by
       rw [← Bool.not_eq_true] at h1
       refine h1 ?_
       simp only [Bool.or_eq_true,Bool.and_eq_true,decide_eq_true_eq]
       rcases hq with ⟨e1,e2⟩|⟨e1,e2⟩|e
       · exact .inl (.inr ⟨by omega,hq2.out.2 e2⟩)
       · exact .inr ⟨by omega,(aZ c 32).2 e2⟩
       · exact .inl (.inl (hq1.out.2 e))
     rw [show u8s b++[AV.int IntKind.u8 (c.toNat:Int)]=u8s (b++[c]) by simp [u8s]]
     refine aj _ _ _ (by omega) (CutL (b:=by simp)) ⟨i+1,m+1,b++[c],rfl,hlt,by omega,hid ⟨by simp [hb.out.1],?_⟩,rfl,rfl⟩
     rw [← hb2.out,wrB,if_neg hc0,if_neg hq,List.append_assoc]
 · have hke:i=s.length:=by omega
   subst hke
   have g1:¬ (s.length:Int)<(s.length:Int):=by omega
   have e1:=fE b
   have e2:=fe b
   have e:=hb.out.2
   rw [List.drop_length,wrL,List.append_nil] at e
   have h':=h.out
   rw [← e] at h'
   replace h':=hid h'
   clear e
   refine wk ?_
   exact ad rfl h'.out
set_option maxHeartbeats 8000000
set_option maxRecDepth 100000
def Mf (n:Nat):Nat:=if n<10 then 48+n else 87+n
theorem tn {n:Nat} (hn:n<16) {L:List Blk} {K:AV→List Blk→Prop} (h:K (.int .u8 (Mf n:Nat)) L):af Tryz.prog 189 [.int .u8 n] L K:=by
 unfold Mf at h
 refine ai Dq (by simp [kN]) ?_
 simp only [kN,ar]
 by_cases h1:n<10
 · rw [if_pos h1] at h
   replace h:=hid h
   have k1:(n:Int)<10:=by omega
   have k2:IntKind.u8.wrap (48+(n:Int))=48+(n:Int):=b7 (by omega) (by omega)
   clear h1
   refine wk ?_
   refine aa ?_
   simpa using h.out
 · rw [if_neg h1] at h
   replace h:=hid h
   have k1:¬ (n:Int)<10:=by omega
   have k2:IntKind.u8.wrap (97+(n:Int))=97+(n:Int):=b7 (by omega) (by omega)
   have k3:IntKind.u8.wrap (97+(n:Int) - 10)=97+(n:Int) - 10:=b7 (by omega) (by omega)
   clear h1
   refine wk ?_
   refine aa ?_
   have:=h.out
   rwa [show ((87+n:Nat):Int)=97+(n:Int) - 10 by omega] at this
theorem Tc:∀ (a:_root_.Fin 256) (x:_root_.Fin 16),(Mf x.val=(ie (UInt8.ofNat a.val)).toNat)↔fN (UInt8.ofNat a.val)=some x.val:=by decide +kernel
set_option maxHeartbeats 8000000
set_option maxRecDepth 100000
theorem Vr {a:UInt8} {x:Nat} (hx:x<16):((Mf x:Nat):Int)=((ie a).toNat:Int)↔fN a=some x:=by
 have:=Tc ⟨a.toNat,a.toNat_lt⟩ ⟨x,hx⟩
 simp only [UInt8.ofNat_toNat] at this
 rw [← this];omega
def J6 (a b:UInt8) (k:Nat):Prop:=fN a=some (k / 16)∧fN b=some (k % 16)
theorem LS {a b:UInt8} {k:Nat} (h:J6 a b k):Ct a b=some (UInt8.ofNat k):=by
 obtain ⟨h1,h2⟩:=h
 simp only [Ct,h1,h2]
 congr 2;omega
theorem LT {a b:UInt8} (h:∀ j,j<256→¬ J6 a b j):Ct a b=none:=by
 unfold Ct
 rcases h1:fN a with _|x
 · rfl
 · rcases h2:fN b with _|y
   · rfl
   · have:=xA h1
     have:=xA h2
     exact absurd ⟨by rw [h1];congr 1;omega,by rw [h2];congr 1;omega⟩ (h (16 * x+y) (by omega))
theorem LB {a b:UInt8} {L:List Blk} {K:AV→List Blk→Prop} (h:K (Ag a b) L):af Tryz.prog 175 [.str [a,b]] L K:=by
 obtain ⟨p,hp⟩:∃ p,ie a=p:=⟨_,rfl⟩
 obtain ⟨q,hq⟩:∃ q,ie b=q:=⟨_,rfl⟩
 have hf:ae [a,b]=[p,q]:=by simp [ae,hp,hq]
 have hl:[p,q].length=2:=rfl
 have hl':[a,b].length=2:=rfl
 have ha:[p,q].getD 0 0=p:=rfl
 have hb:[p,q].getD 1 0=q:=rfl
 have d1:Int.tmod 2 2=0:=by decide
 replace h:=hid h
 refine ai Dr (by simp [kO]) ?_
 simp only [kO,ar]
 refine wk ?_
 refine fG (by simp) ?_
 rw [hf]
 refine sk ?_
 refine wk ?_
 refine dr (l:=[]) (n:=0) 4 1 rfl (Nat.zero_mul 1).symm ?_
 refine am (fun n T' L'=>(n=1∧T'=[(6,.int .i64 0),(4,.gsl [] 0 L.length 1),(5,.str [p,q]),(0,.str [a,b])]∧L'=L++[.spare 0 1])∨(n=0∧∃ (x:UInt8) (w:List AV),Hid (Ct a b=some x∧w=u8s [x])∧T'=[(6,.int .i64 2),(4,.gsl w 1 L.length 1),(5,.str [p,q]),(0,.str [a,b])]∧L'=L++[.spare 1 1])) (n0:=1) (T0:=[(6,.int .i64 0),(4,.gsl [] 0 L.length 1),(5,.str [p,q]),(0,.str [a,b])]) (L0:=L++[.spare 0 1]) (CutS (b:=by simp)) (.inl ⟨rfl,rfl,rfl⟩) ?_
 rintro _ _ _ (⟨rfl,rfl,rfl⟩|⟨rfl,x,w,hx,rfl,rfl⟩)
 · refine wk ?_
   refine am (fun n T' L'=>(∃ k:Nat,n=257 - k∧k≤256∧Hid (∀ j,j<k→¬ J6 a b j)∧T'=[(8,.int .i64 (k:Int)),(7,.bool false),(6,.int .i64 0),(4,.gsl [] 0 L.length 1),(5,.str [p,q]),(0,.str [a,b])]∧L'=L++[.spare 0 1])∨(n=0∧∃ (x:UInt8) (k:Nat) (w:List AV),k≤256∧Hid (Ct a b=some x∧w=u8s [x])∧T'=[(8,.int .i64 (k:Int)),(7,.bool true),(6,.int .i64 0),(4,.gsl w 1 L.length 1),(5,.str [p,q]),(0,.str [a,b])]∧L'=L++[.spare 1 1])) (n0:=257) (T0:=[(8,.int .i64 0),(7,.bool false),(6,.int .i64 0),(4,.gsl [] 0 L.length 1),(5,.str [p,q]),(0,.str [a,b])]) (L0:=L++[.spare 0 1]) (CutS (b:=by simp)) (.inl ⟨0,rfl,by omega,hid (by simp),rfl,rfl⟩) ?_
   rintro _ _ _ (⟨k,rfl,hk,hno,rfl,rfl⟩|⟨rfl,x,k,w,hk,hx,rfl,rfl⟩)
   · by_cases hlt:k<256
     · have g1:(k:Int)<256:=by omega
       have g2:IntKind.i64.wrap ((k:Int)+1)=(k:Int)+1:=ab (by omega) (by omega)
       have g3:IntKind.u8.wrap (k:Int)=(k:Int):=b7 (by omega) (by omega)
       obtain ⟨u,hu⟩:∃ u,k / 16=u:=⟨_,rfl⟩
       obtain ⟨v,hv⟩:∃ v,k % 16=v:=⟨_,rfl⟩
       have hu16:u<16:=by omega
       have hv16:v<16:=by omega
       have g4:IntKind.i64.wrap (Int.tdiv (k:Int) 16)=(u:Int):=by
         rw [Int.tdiv_eq_ediv_of_nonneg (by omega),ab (by omega) (by omega)];omega
       have g5:IntKind.u8.wrap (u:Int)=(u:Int):=b7 (by omega) (by omega)
       have g6:Int.tmod (k:Int) 16=(v:Int):=by
         rw [Int.tmod_eq_emod_of_nonneg (by omega)];omega
       have g7:IntKind.u8.wrap (v:Int)=(v:Int):=b7 (by omega) (by omega)
       have m1:=Vr (a:=a) hu16
       have m2:=Vr (a:=b) hv16
       rw [hp] at m1
       rw [hq] at m2
       have mk:J6 a b k↔fN a=some u∧fN b=some v:=by unfold J6;rw [hu,hv]
       replace hu:=hid hu
       replace hv:=hid hv
       replace mk:=hid mk
       have nxt:=hid fun (e:¬ J6 a b k)=>show ∀ j,j<k+1→¬ J6 a b j from fun j hj=>by
         rcases Nat.lt_or_ge j k with e'|e'
         · exact hno.out j e'
         · rw [show j=k by omega];exact e
       by_cases h1:fN a=some u
       · have k1:=m1.2 h1
         by_cases h2:fN b=some v
         · have k2:=m2.2 h2
           have hx:=LS (mk.out.2 ⟨h1,h2⟩)
           have hkk:((UInt8.ofNat k).toNat:Int)=(k:Int):=by simp;omega
           replace hkk:=hid hkk
           replace hx:=hid hx
           clear m1 m2 h1 h2
           have kk1:=@hid _ (fun L K=>tn hu16 (L:=L) (K:=K))
           have kk2:=@hid _ (fun L K=>tn hv16 (L:=L) (K:=K))
           refine wk ?_
           refine aj _ _ _ (by omega) (CutL (b:=by simp)) (.inr ⟨rfl,UInt8.ofNat k,k+1,_,by omega,hid ⟨hx.out,?_⟩,rfl,rfl⟩)
           simp only [u8s,List.map,hkk.out]
         · have k2:¬ ((Mf v:Nat):Int)=(q.toNat:Int):=fun e=>h2 (m2.1 e)
           have hn:=hid (nxt.out fun e=>h2 (mk.out.1 e).2)
           clear m1 m2 h1 h2
           have kk1:=@hid _ (fun L K=>tn hu16 (L:=L) (K:=K))
           have kk2:=@hid _ (fun L K=>tn hv16 (L:=L) (K:=K))
           refine wk ?_
           exact aj _ _ _ (by omega) (CutL (b:=by simp)) (.inl ⟨k+1,rfl,by omega,hn,rfl,rfl⟩)
       · have k1:¬ ((Mf u:Nat):Int)=(p.toNat:Int):=fun e=>h1 (m1.1 e)
         have hn:=hid (nxt.out fun e=>h1 (mk.out.1 e).1)
         clear m1 m2 h1
         have kk1:=@hid _ (fun L K=>tn hu16 (L:=L) (K:=K))
         refine wk ?_
         exact aj _ _ _ (by omega) (CutL (b:=by simp)) (.inl ⟨k+1,rfl,by omega,hn,rfl,rfl⟩)
     · have hke:k=256:=by omega
       subst hke
       have h':=h.out
       simp only [Ag,LT hno.out] at h'
       replace h':=hid h'
       have g1:¬ ((256:Nat):Int)<256:=by omega
       refine wk ?_
       exact ad rfl h'.out
   · by_cases hlt:(k:Int)<256
     · refine wk ?_
       exact aj _ _ _ (by omega) (CutL (b:=by simp)) (.inr ⟨rfl,x,w,hx,rfl,rfl⟩)
     · refine wk ?_
       exact aj _ _ _ (by omega) (CutL (b:=by simp)) (.inr ⟨rfl,x,w,hx,rfl,rfl⟩)
 · have h':=h.out
   simp only [Ag,hx.out.1] at h'
   replace h':=hid h'
   rw [hx.out.2]
   have e1:=fE [x]
   have e2:=fe [x]
   refine wk ?_
   exact ad rfl h'.out
set_option maxHeartbeats 8000000
set_option maxRecDepth 100000
def gp (b:List UInt8) (bl:Bool) (s:List UInt8):Option (List UInt8×List UInt8):=match fB b bl s with
 | some (v,r,true)=>some (v,r)
 | _=>none
def JJ (n:Nat) (o:Option (List UInt8×List UInt8)):AV:=match o with
 | none=>.tup [.str [],.int .i64 0,.bool false]
 | some (v,r)=>.tup [.str v,.int .i64 ((n - r.length:Nat):Int),.bool true]
theorem Ll {b s:List UInt8} {c:UInt8} (h:c=44∨c=43):gp b false (c::s)=some (b,c::s):=by simp only [gp,kS h];rfl
theorem JI {b s:List UInt8} {c:UInt8} (h:c=44∨c=43):gp b true (c::s)=none:=by simp only [gp,kS h];rfl
theorem MO {b:List UInt8}:gp b false []=some (b,[]):=by simp only [gp,jb];rfl
theorem Ln {b:List UInt8}:gp b true []=none:=by simp only [gp,jb];rfl
theorem MP {b s:List UInt8} {bl:Bool} {c:UInt8} (h:¬ (c=44∨c=43)) (h2:c≠92) (hb:c=0∨c∈([34,59,60,62]:List UInt8)∨(b=[]∧(c=32∨c=35))):gp b bl (c::s)=none:=by
 simp only [gp,ja h h2,if_pos hb]
theorem Fa {b s:List UInt8} {bl:Bool} {c:UInt8} (h:¬ (c=44∨c=43)) (h2:c≠92) (hb:¬ (c=0∨c∈([34,59,60,62]:List UInt8)∨(b=[]∧(c=32∨c=35)))):gp b bl (c::s)=gp (b++[c]) (decide (c=32)) s:=by
 simp only [gp,ja h h2,if_neg hb]
theorem EP {x:UInt8} {L:List Blk} {K:AV→List Blk→Prop} (h:K (.bool (je.contains x)) L):af Tryz.prog 103 [.int .u8 x.toNat,.str je] L K:=gI (by simp) h
theorem HF {a b c d x:UInt8} {L:List Blk} {K:AV→List Blk→Prop} (h:K (.bool ([a,b,c,d].contains x)) L):af Tryz.prog 103 [.int .u8 x.toNat,.str [a,b,c,d]] L K:=gI (by simp) h
theorem HG {a b x:UInt8} {L:List Blk} {K:AV→List Blk→Prop} (h:K (.bool ([a,b].contains x)) L):af Tryz.prog 103 [.int .u8 x.toNat,.str [a,b]] L K:=gI (by simp) h
theorem M7 {s:List UInt8} {at0:Nat} (hs:s.length≤100000) (hat:at0≤s.length) {L:List Blk} {K:AV→List Blk→Prop} (h:K (JJ s.length (gp [] false (s.drop at0))) L):af Tryz.prog 146 [.str s,.int .i64 (at0:Int)] L K:=by
 obtain ⟨R,hR⟩:∃ R,gp [] false (s.drop at0)=R:=⟨_,rfl⟩
 rw [hR] at h
 replace h:=hid h
 refine ai Dm (by simp [kJ]) ?_
 simp only [kJ,ar]
 refine wk ?_
 refine dr (l:=[]) (n:=0) 7 1 rfl (Nat.zero_mul 1).symm ?_
 refine am (fun n T' L'=>∃ (i m:Nat) (b:List UInt8) (bl fb:Bool),n=s.length - i∧i≤s.length∧m≤i∧Hid (m=b.length∧gp b bl (s.drop i)=R∧(bl=true→i<s.length∧s.getD i 0≠44∧s.getD i 0≠43)∧(fb=true↔b=[]))∧T'=[(8,.bool fb),(1,.int .i64 (i:Int)),(7,.gsl (u8s b) m L.length 1),(0,.str s)]∧L'=L++[.spare m 1]) (CutS (b:=by simp)) ⟨at0,0,[],false,true,rfl,hat,by omega,hid ⟨rfl,hR,by simp,by simp⟩,rfl,rfl⟩ ?_
 rintro _ _ _ ⟨i,m,b,bl,fb,rfl,hi,hm,hI,rfl,rfl⟩
 have e1:=fE b
 have e2:=fe b
 by_cases hlt:i<s.length
 · have g1:(i:Int)<(s.length:Int):=by omega
   have g2:IntKind.i64.wrap ((i:Int)+1)=(i:Int)+1:=ab (by omega) (by omega)
   obtain ⟨c,hc⟩:∃ c,s.getD i 0=c:=⟨_,rfl⟩
   have hdr:=gn hlt
   rw [hc] at hdr
   have hb2:=hI.out.2.1
   rw [hdr] at hb2
   by_cases hcc:c=44∨c=43
   · have hbl:bl=false:=by
       cases bl with
       | false=>rfl
       | true =>
         obtain ⟨_,n1,n2⟩:=hI.out.2.2.1 rfl
         rw [hc] at n1 n2
         rcases hcc with e|e
         · exact absurd e n1
         · exact absurd e n2
     subst hbl
     rw [Ll hcc] at hb2
     have h':=h.out
     rw [← hb2] at h'
     simp only [JJ] at h'
     rw [← hdr,List.length_drop,show s.length - (s.length - i)=i by omega] at h'
     replace h':=hid h'
     have k1:((c.toNat:Int)=44)∨((c.toNat:Int)=43):=hcc.imp (aZ c 44).2 (aZ c 43).2
     clear hb2 hcc hdr
     rcases k1 with k1|k1
     · refine wk ?_
       exact ad rfl h'.out
     · refine wk ?_
       exact ad rfl h'.out
   · have k1:¬ (c.toNat:Int)=44:=fun e=>hcc (.inl ((aZ c 44).1 e))
     have k2:¬ (c.toNat:Int)=43:=fun e=>hcc (.inr ((aZ c 43).1 e))
     by_cases h92:c=92
     · subst h92
       have g3:IntKind.i64.wrap ((i:Int)+1+1)=(i:Int)+1+1:=ab (by omega) (by omega)
       have g4:IntKind.i64.wrap ((i:Int)+1+2)=(i:Int)+1+2:=ab (by omega) (by omega)
       have t1:((i:Int)+1).toNat=i+1:=by omega
       have t3:((i:Int)+1+2).toNat=i+3:=by omega
       by_cases h1:i+1<s.length
       · have f1:(i:Int)+1<(s.length:Int):=by omega
         have f0:¬ (i:Int)+1=(s.length:Int):=by omega
         obtain ⟨d,hd⟩:∃ d,s.getD (i+1) 0=d:=⟨_,rfl⟩
         have hdr1:=gn h1
         rw [hd] at hdr1
         rw [hdr1] at hb2
         by_cases hsp:d∈je
         · simp only [gp,xq hsp] at hb2
           have f2:je.contains d=true:=List.contains_iff_mem.2 hsp
           clear hdr hdr1 hcc
           replace hb2:=hid hb2
           have kk1:=@hid _ @EP
           have kk2:=@hid _ @HF
           have kk3:=@hid _ @HG
           refine wk ?_
           rw [show u8s b++[AV.int IntKind.u8 (d.toNat:Int)]=u8s (b++[d]) by simp [u8s]]
           exact aj _ _ _ (by omega) (CutL (b:=by simp)) ⟨i+1+1,m+1,b++[d],false,false,rfl,h1,by omega,hid ⟨by simp [hI.out.1],hb2.out,by simp,by simp⟩,rfl,rfl⟩
         · have f2:je.contains d=false:=by
             rw [← Bool.not_eq_true,List.contains_iff_mem];exact hsp
           by_cases h2:i+2<s.length
           · have f3:¬ (s.length:Int)<(i:Int)+1+2:=by omega
             have f4:(i:Int)+1≤(i:Int)+1+2:=by omega
             have f5:(i:Int)+1+2≤(s.length:Int):=by omega
             have f6:(0:Int)≤(i:Int)+1:=by omega
             obtain ⟨e,he⟩:∃ e,s.getD (i+2) 0=e:=⟨_,rfl⟩
             have hdr2:=gn h2
             rw [he] at hdr2
             rw [hdr2] at hb2
             simp only [gp,AF hsp] at hb2
             have hcut:(s.drop (i+1)).take (i+3 - (i+1))=[d,e]:=by
               rw [hdr1,hdr2,show i+3 - (i+1)=2 by omega];rfl
             clear hdr hdr1 hdr2 hcc
             replace hb2:=hid hb2
             have kk1:=@hid _ @EP
             have kk2:=@hid _ @HF
             have kk3:=@hid _ @HG
             refine wk ?_
             refine LB ?_
             rcases hx:Ct d e with _|x
             · rw [show Ag d e=.tup [.str [],.bool false] by simp only [Ag,hx]]
               have h':=h.out
               rw [← hb2.out,hx] at h'
               simp only [JJ] at h'
               replace h':=hid h'
               clear hx
               refine sk ?_
               refine wk ?_
               exact ad rfl h'.out
             · rw [show Ag d e=.tup [.str [x],.bool true] by simp only [Ag,hx]]
               have hb3:=hb2.out
               rw [hx] at hb3
               simp only at hb3
               replace hb3:=hid hb3
               have q1:[x].getD 0 0=x:=rfl
               clear hx hb2
               refine sk ?_
               refine wk ?_
               rw [show u8s b++[AV.int IntKind.u8 (x.toNat:Int)]=u8s (b++[x]) by simp [u8s]]
               exact aj _ _ _ (by omega) (CutL (b:=by simp)) ⟨i+1+2,m+1,b++[x],false,false,rfl,h2,by omega,hid ⟨by simp [hI.out.1],hb3.out,by simp,by simp⟩,rfl,rfl⟩
           · have f3:(s.length:Int)<(i:Int)+1+2:=by omega
             have hnil:s.drop (i+1+1)=[]:=List.drop_eq_nil_of_le (by omega)
             rw [hnil] at hb2
             simp only [gp,xp hsp] at hb2
             have h':=h.out
             rw [← hb2] at h'
             replace h':=hid h'
             clear hdr hdr1 hb2 hcc
             have kk1:=@hid _ @EP
             have kk2:=@hid _ @HF
             have kk3:=@hid _ @HG
             refine wk ?_
             exact ad rfl h'.out
       · have f1:¬ (i:Int)+1<(s.length:Int):=by omega
         have f0:(i:Int)+1=(s.length:Int):=by omega
         have f3:(s.length:Int)<(s.length:Int)+2:=by omega
         have f4:¬ (s.length:Int)<(s.length:Int):=by omega
         have g5:IntKind.i64.wrap (s.length:Int)=(s.length:Int):=ab (by omega) (by omega)
         have g6:IntKind.i64.wrap ((s.length:Int)+2)=(s.length:Int)+2:=ab (by omega) (by omega)
         have hnil:s.drop (i+1)=[]:=List.drop_eq_nil_of_le (by omega)
         rw [hnil] at hb2
         simp only [gp,xr] at hb2
         have h':=h.out
         rw [← hb2] at h'
         replace h':=hid h'
         clear hdr hb2 hcc
         have kk1:=@hid _ @EP
         have kk2:=@hid _ @HF
         have kk3:=@hid _ @HG
         refine wk ?_
         exact ad rfl h'.out
     · have k3:¬ (c.toNat:Int)=92:=fun e=>h92 ((aZ c 92).1 e)
       obtain ⟨p1,hp1⟩:∃ p,([34,59,60,62]:List UInt8).contains c=p:=⟨_,rfl⟩
       obtain ⟨p2,hp2⟩:∃ p,([32,35]:List UInt8).contains c=p:=⟨_,rfl⟩
       have hq1:p1=true↔c∈([34,59,60,62]:List UInt8):=by rw [← hp1,List.contains_iff_mem]
       have hq2:p2=true↔(c=32∨c=35):=by rw [← hp2,List.contains_iff_mem];simp
       replace hq1:=hid hq1
       replace hq2:=hid hq2
       have h0:=hid (aZ c 0)
       have h32:=hid (aZ c 32)
       have hfb:=hid hI.out.2.2.2
       obtain ⟨lst,hlst⟩:∃ lst:Bool,decide (i+1<s.length→s.getD (i+1) 0=44∨s.getD (i+1) 0=43)=lst:=⟨_,rfl⟩
       have hbad:=hid fun (e:c=0∨c∈([34,59,60,62]:List UInt8)∨(b=[]∧(c=32∨c=35)))=>(show R=none by rw [← hb2,MP hcc h92 e])
       have hend:=hid fun (e:lst=true∧c=32)=>(show R=none by
         by_cases eb:c=0∨c∈([34,59,60,62]:List UInt8)∨(b=[]∧(c=32∨c=35))
         · exact hbad.out eb
         · rw [← hb2,Fa hcc h92 eb,e.2]
           have el:=of_decide_eq_true (hlst.trans e.1)
           simp only [decide_true]
           by_cases h1:i+1<s.length
           · rw [gn h1,JI (el h1)]
           · rw [List.drop_eq_nil_of_le (by omega),Ln])
       have hgo:=hid fun (e:¬ (c=0∨c∈([34,59,60,62]:List UInt8)∨(b=[]∧(c=32∨c=35))))=>(show gp (b++[c]) (decide (c=32)) (s.drop (i+1))=R by rw [← hb2,Fa hcc h92 e])
       replace hlst:=hid hlst
       clear hdr hb2 hcc
       have bad:R=none→Fin L (.tup [.str [],.int .i64 0,.bool false]) (L++[.spare m 1]) K:=fun e=>ad rfl (by have h':=h.out;rwa [e] at h')
       replace bad:=hid bad
       by_cases h1:i+1<s.length
       · have f1:(i:Int)+1<(s.length:Int):=by omega
         have f0:¬ (i:Int)+1=(s.length:Int):=by omega
         have t1:((i:Int)+1).toNat=i+1:=by omega
         obtain ⟨d,hd⟩:∃ d,s.getD (i+1) 0=d:=⟨_,rfl⟩
         have hlst2:=hid (show lst=true↔((d.toNat:Int)=44∨(d.toNat:Int)=43) by
           rw [← hlst.out,decide_eq_true_eq,hd,show (44:Int)=((44:UInt8).toNat:Int) from rfl,show (43:Int)=((43:UInt8).toNat:Int) from rfl,aZ,aZ]
           exact ⟨fun e=>e h1,fun e _=>e⟩)
         repeat' first
           | refine a8 ?_
           | (first|refine aM (by kernel_rfl) ?_|refine aA (by kernel_rfl) ?_|refine aB ?_|refine bV ?_|refine bc (fun _=>?_)|refine au ?_|refine aT ?_|refine gI (by simp) ?_|refine aV (gI (by simp) ⟨rfl,rfl⟩) (gI (by simp) ⟨rfl,rfl⟩) ?_|refine aK (gI (by simp) ⟨rfl,rfl⟩) ?_)
             refine sm ?_
           | (first|refine aP (by kernel_rfl) ?_|refine aN ?_|refine aO ?_|refine ba (ax ?_))
             refine sl ?_
           | exact bd
           | first|apply be|apply aQ|apply bf|apply aR|apply bg|apply aS
           | refine aC ?_
           | first|refine aD rfl ?_|refine aE rfl ?_|refine ao rfl ?_ ?_|refine aH rfl (fun _=>?_) (fun _=>?_)|refine aG rfl (fun _=>?_) (fun _=>?_)
           | ((first|refine an (fun _=>?_) (fun _=>?_)|refine aw (fun _=>?_) (fun _=>?_))<;>try refine sm ?_)
           | refine And.intro trivial ?_
           | refine And.intro (by omega) ?_
           | refine aI rfl (fun _=>?_) (fun _=>?_)
           | refine And.intro ?_ ?_
         · rename_i hx
           refine bad.out ?_
           simp only [Bool.or_eq_true,Bool.and_eq_true,decide_eq_true_eq] at hx
           rcases hx with ((e|e)|⟨e,e'⟩)|e
           · exact hbad.out (.inl (h0.out.1 e))
           · exact hbad.out (.inr (.inl (hq1.out.1 e)))
           · exact hbad.out (.inr (.inr ⟨hfb.out.1 e,hq2.out.1 e'⟩))
           · exact hend.out ⟨hlst2.out.2 e.1,h32.out.1 e.2⟩
         · rename_i hx
           rw [← Bool.not_eq_true] at hx
           simp only [Bool.or_eq_true,Bool.and_eq_true,decide_eq_true_eq] at hx
           rw [show u8s b++[AV.int IntKind.u8 (c.toNat:Int)]=u8s (b++[c]) by simp [u8s]]
           refine aj _ _ _ (by omega) (CutL (b:=by simp)) ⟨i+1,m+1,b++[c],decide (c=32),false,rfl,hlt,by omega,hid ⟨by simp [hI.out.1],?_,fun e=>?_,by simp⟩,rfl,rfl⟩
           · refine hgo.out fun e=>hx ?_
             rcases e with e|e|⟨e,e'⟩
             · exact .inl (.inl (.inl (h0.out.2 e)))
             · exact .inl (.inl (.inr (hq1.out.2 e)))
             · exact .inl (.inr ⟨hfb.out.2 e,hq2.out.2 e'⟩)
           · have e32:=h32.out.2 (of_decide_eq_true e)
             refine ⟨h1,?_,?_⟩
             · intro e4
               exact hx (.inr ⟨.inl (by rw [← hd,e4];rfl),e32⟩)
             · intro e4
               exact hx (.inr ⟨.inr (by rw [← hd,e4];rfl),e32⟩)
       · have f1:¬ (i:Int)+1<(s.length:Int):=by omega
         have f0:(i:Int)+1=(s.length:Int):=by omega
         have g5:IntKind.i64.wrap (s.length:Int)=(s.length:Int):=ab (by omega) (by omega)
         have hlst2:=hid (show lst=true by rw [← hlst.out,decide_eq_true_eq];exact fun e=>absurd e h1)
         repeat' first
           | refine a8 ?_
           | (first|refine aM (by kernel_rfl) ?_|refine aA (by kernel_rfl) ?_|refine aB ?_|refine bV ?_|refine bc (fun _=>?_)|refine au ?_|refine aT ?_|refine gI (by simp) ?_|refine aV (gI (by simp) ⟨rfl,rfl⟩) (gI (by simp) ⟨rfl,rfl⟩) ?_|refine aK (gI (by simp) ⟨rfl,rfl⟩) ?_)
             refine sm ?_
           | (first|refine aP (by kernel_rfl) ?_|refine aN ?_|refine aO ?_|refine ba (ax ?_))
             refine sl ?_
           | exact bd
           | first|apply be|apply aQ|apply bf|apply aR|apply bg|apply aS
           | refine aC ?_
           | first|refine aD rfl ?_|refine aE rfl ?_|refine ao rfl ?_ ?_|refine aH rfl (fun _=>?_) (fun _=>?_)|refine aG rfl (fun _=>?_) (fun _=>?_)
           | ((first|refine an (fun _=>?_) (fun _=>?_)|refine aw (fun _=>?_) (fun _=>?_))<;>try refine sm ?_)
           | refine And.intro trivial ?_
           | refine And.intro (by omega) ?_
           | refine aI rfl (fun _=>?_) (fun _=>?_)
           | refine And.intro ?_ ?_
         · rename_i hx
           refine bad.out ?_
           simp only [Bool.or_eq_true,Bool.and_eq_true,decide_eq_true_eq] at hx
           rcases hx with ((e|e)|⟨e,e'⟩)|e
           · exact hbad.out (.inl (h0.out.1 e))
           · exact hbad.out (.inr (.inl (hq1.out.1 e)))
           · exact hbad.out (.inr (.inr ⟨hfb.out.1 e,hq2.out.1 e'⟩))
           · exact hend.out ⟨hlst2.out,h32.out.1 e⟩
         · rename_i hx
           rw [← Bool.not_eq_true] at hx
           simp only [Bool.or_eq_true,Bool.and_eq_true,decide_eq_true_eq] at hx
           rw [show u8s b++[AV.int IntKind.u8 (c.toNat:Int)]=u8s (b++[c]) by simp [u8s]]
           refine aj _ _ _ (by omega) (CutL (b:=by simp)) ⟨i+1,m+1,b++[c],decide (c=32),false,rfl,hlt,by omega,hid ⟨by simp [hI.out.1],?_,fun e=>?_,by simp⟩,rfl,rfl⟩
           · refine hgo.out fun e=>hx ?_
             rcases e with e|e|⟨e,e'⟩
             · exact .inl (.inl (.inl (h0.out.2 e)))
             · exact .inl (.inl (.inr (hq1.out.2 e)))
             · exact .inl (.inr ⟨hfb.out.2 e,hq2.out.2 e'⟩)
           · have e32:=h32.out.2 (of_decide_eq_true e)
             exact absurd (.inr e32) hx
 · have hke:i=s.length:=by omega
   subst hke
   have g1:¬ (s.length:Int)<(s.length:Int):=by omega
   have hbl:bl=false:=by
     cases bl with
     | false=>rfl
     | true=>exact absurd (hI.out.2.2.1 rfl).1 (by omega)
   subst hbl
   have h':=h.out
   rw [← hI.out.2.1,List.drop_length,MO] at h'
   simp only [JJ,List.length_nil,Nat.sub_zero] at h'
   replace h':=hid h'
   refine wk ?_
   exact ad rfl h'.out
set_option maxHeartbeats 8000000
set_option maxRecDepth 100000
theorem MQ:∀ (n:Nat) {s b:List UInt8} {bl:Bool} {v r:List UInt8} {ok:Bool},s.length≤n→fB b bl s=some (v,r,ok)→r <:+ s:=by
 intro n
 induction n with
 | zero =>
   intro s b bl v r ok hn h
   obtain rfl:=List.length_eq_zero_iff.1 (Nat.le_zero.1 hn)
   rw [jb] at h;cases h;exact List.suffix_refl _
 | succ n ih =>
   intro s b bl v r ok hn h
   cases s with
   | nil=>rw [jb] at h;cases h;exact List.suffix_refl _
   | cons c s =>
     simp only [List.length_cons] at hn
     by_cases hc:c=44∨c=43
     · rw [kS hc] at h;cases h;exact List.suffix_refl _
     by_cases h92:c=92
     · subst h92
       cases s with
       | nil=>rw [xr] at h;cases h
       | cons d s =>
         by_cases hd:d∈je
         · rw [xq hd] at h
           exact (ih (by simp at hn;omega) h).trans ((List.suffix_cons _ _).trans (List.suffix_cons _ _))
         · cases s with
           | nil=>rw [xp hd] at h;cases h
           | cons e s =>
             rw [AF hd] at h
             split at h
             · cases h
             · exact (ih (by simp at hn;omega) h).trans ((List.suffix_cons _ _).trans ((List.suffix_cons _ _).trans (List.suffix_cons _ _)))
     · rw [ja hc h92] at h
       split at h
       · cases h
       · exact (ih (by omega) h).trans (List.suffix_cons _ _)
theorem Lm {s v r:List UInt8} (h:gp [] false s=some (v,r)):fB [] false s=some (v,r,true):=by
 unfold gp at h
 split at h
 · rename_i e;cases h;exact e
 · cases h
theorem G6 (f:Nat) (out:List Rdn) (now:Rdn) (s:List UInt8):oc (f+1) out now s=if out.length=32∨now.length=8 then ([],9) else match il s with
   | none=>([],4)
   | some (typ,rest)=>if fV typ=false then ([],4) else if iT now typ=true then ([],21) else match gp [] false rest with
     | none=>([],4)
     | some (v,r2)=>match r2 with
       | []=>(out++[now++[(typ,v)]],0)
       | c::s'=>if c=44 then oc f (out++[now++[(typ,v)]]) [] s' else oc f out (now++[(typ,v)]) s':=by
 rw [oc]
 congr 1
 rcases il s with _|⟨typ,rest⟩
 · rfl
 · simp only
   congr 1
   congr 1
   unfold gp
   rcases fB [] false rest with _|⟨v,r2,ok⟩
   · rfl
   · cases ok<;>rfl
theorem Mi {s:List UInt8} {i j:Nat} (hij:i≤j) (hj:j<s.length) (hc:s.getD j 0≠61) (h:il (s.drop i)=(il (s.drop j)).map fun p=>((s.drop i).take (j - i)++p.1,p.2)) :
   il (s.drop i)=(il (s.drop (j+1))).map fun p=>((s.drop i).take (j+1 - i)++p.1,p.2):=by
 rw [h,gn hj]
 simp only [il,if_neg hc]
 have ht:(s.drop i).take (j+1 - i)=(s.drop i).take (j - i)++[s.getD j 0]:=by
   rw [show j+1 - i=(j - i)+1 by omega,List.take_succ_eq_append_getElem (by simp;omega)]
   congr 2
   simp [show i+(j - i)=j by omega,hj]
 rw [ht]
 rcases il (s.drop (j+1)) with _|⟨a,b⟩
 · rfl
 · simp
theorem Rc {r:Rdn} {typ:List UInt8} {i n:Nat} (hr:r.length=n) (hn:n≤8) (h1:∀ a∈r,a.1.length≤32) (h2:typ.length≤4096) {L:List Blk} {K:AV→List Blk→Prop} (h:K (.bool (iT r typ)) L) :
   af Tryz.prog 145 [.gsl (aJ r) n i 2,.str typ] L K:=by
 subst hr
 exact xM (by simpa only [AV.frzL,AV.frz,fA] using Nd (cap:=none) (by omega) (fun a ha=>by have:=h1 a ha;omega) (by omega) h)
theorem LA {s:List UInt8} {z:Int} {at0:Nat} (hz:z=(at0:Int)) (hs:s.length≤100000) (hat:at0≤s.length) {L:List Blk} {K:AV→List Blk→Prop} (h:K (JJ s.length (gp [] false (s.drop at0))) L):af Tryz.prog 146 [.str s,.int .i64 z] L K:=by
 subst hz;exact M7 hs hat h
theorem Na {s:List UInt8} {L:List Blk} {K:AV→List Blk→Prop} (h:K (JY (xQ s)) L):af Tryz.prog 113 [.str s] L K:=by
 refine ai Dp (by simp [kM]) ?_
 simp only [kM,ar]
 by_cases h1:4096<s.length
 · have f1:(4096:Int)<(s.length:Int):=by omega
   rw [xQ,if_pos h1] at h
   replace h:=hid h
   clear h1
   refine wk ?_
   exact bB (aa h.out)
 have f1:¬ (4096:Int)<(s.length:Int):=by omega
 rw [xQ,if_neg h1] at h
 have hs:=hid (show s.length≤4096 by omega)
 clear h1
 obtain ⟨R,hR⟩:∃ R,(if s=[] then ([],0) else oc (s.length+1) [] [] s)=R:=⟨_,rfl⟩
 rw [hR] at h
 replace h:=hid h
 replace hR:=hid hR
 refine wk ?_
 refine dr (l:=[]) (n:=0) 4 1 rfl (Nat.zero_mul 1).symm ?_
 refine am (fun n T' L'=>∃ (f m i:Nat) (out:List Rdn) (X:List Blk),f=n∧i≤s.length∧m≤32∧Hid (s≠[]→s.length - i<f∧oc f out [] (s.drop i)=R)∧Hid (s=[]→out=[])∧Hid (m=out.length)∧L'[L.length]?=some (.spare m 1)∧T'=[(5,.int .i64 (i:Int)),(4,.gsl (out.map bT) m L.length 1),(0,.str s)]∧L'=L++X) (CutS (b:=by simp)) ⟨s.length+1,0,0,[],[.spare 0 1],rfl,Nat.zero_le _,by omega,hid (fun e=>⟨by omega,by have:=hR.out;rw [if_neg e] at this;simpa using this⟩),hid (fun _=>rfl),hid rfl,by simp,rfl,rfl⟩ ?_
 rintro _ _ _ ⟨f,m,i,out,X,rfl,hi,hm32,hI,hI0,hm,ho,rfl,rfl⟩
 by_cases h0:s=[]
 · have h':=h.out
   rw [← hR.out,if_pos h0] at h'
   replace h':=hid h'
   have f2:¬ (0:Int)<(s.length:Int):=by rw [h0];simp
   clear h0
   refine wk ?_
   exact bB (ad rfl h'.out)
 obtain ⟨hf,hp⟩:=hI.out h0
 have f2:(0:Int)<(s.length:Int):=by have:=List.length_pos_iff.2 h0;omega
 clear hI hI0 hR h0
 have hB:L.length<(L++X).length:=(List.getElem?_eq_some_iff.1 ho).1
 by_cases hlim:m=32
 · obtain ⟨f,rfl⟩:∃ g,f=g+1:=⟨f - 1,by omega⟩
   rw [G6,if_pos (.inl (by rw [← hm.out];exact hlim))] at hp
   have h':=h.out
   rw [← hp] at h'
   replace h':=hid h'
   have k:(m:Int)=32:=by omega
   clear hp hlim hf
   refine wk ?_
   exact eQ h'.out
 have k1:¬ (m:Int)=32:=by omega
 replace hp:=hid hp
 refine wk ?_
 refine am (fun n T' L'=>∃ (g i:Nat) (now:Rdn) (v:AV) (Z:List Blk),g=n∧g≤f∧i≤s.length∧now.length≤8∧Hid (s.length - i<g∧oc g out now (s.drop i)=R∧(∀ a∈now,a.1.length≤32)∧U6 L.length now v L')∧L'[L.length]?=some (.spare m 1)∧X.length≤Z.length∧T'=[(6,v),(5,.int .i64 (i:Int)),(4,.gsl (out.map bT) m L.length 1),(0,.str s)]∧L'=L++Z) (CutS (b:=by simp)) ⟨f,i,[],_,X,rfl,Nat.le_refl _,hi,by simp,hid ⟨hf,hp.out,by simp,.inl ⟨rfl,rfl,rfl⟩⟩,ho,Nat.le_refl _,rfl,rfl⟩ ?_
 clear hp hf ho hi
 rintro _ _ _ ⟨g,i,now,v,X1,rfl,hgf,hi,hn8,hI,ho,hXZ,rfl,rfl⟩
 obtain ⟨hf,hp,ht,hv⟩:=hI.out
 clear hI
 obtain ⟨g,rfl⟩:∃ g',g=g'+1:=⟨g - 1,by omega⟩
 have hB1:L.length<(L++X1).length:=(List.getElem?_eq_some_iff.1 ho).1
 refine Ij 6 2 L.length rfl hB1 hv fun p Y hBi hpi=>?_
 rw [List.append_assoc] at hpi ⊢
 have ho2:(L++(X1++Y))[L.length]?=some (.spare m 1):=by rw [← List.append_assoc,List.getElem?_append_left hB1];exact ho
 have hXZ2:X.length≤(X1++Y).length:=by simp;omega
 generalize X1++Y=Z at hpi ho2 hXZ2 ⊢
 clear ho hB1 hv hXZ X1 Y
 replace hXZ2:=hid hXZ2
 have hpl:=(List.getElem?_eq_some_iff.1 hpi).1
 have hol:=(List.getElem?_eq_some_iff.1 ho2).1
 have hz:p - L.length≠0:=by omega
 obtain ⟨c,hc⟩:∃ c:Nat,now.length=c:=⟨_,rfl⟩
 rw [G6] at hp
 rw [hc] at hp hpi hn8 ⊢
 rw [List.length_append] at hpl hol
 replace hz:=hid hz
 replace hpl:=hid hpl
 replace hol:=hid hol
 by_cases hlim2:c=8
 · rw [if_pos (.inr hlim2)] at hp
   have h':=h.out
   rw [← hp] at h'
   replace h':=hid h'
   have k:(c:Int)=8:=by omega
   clear hp hlim2
   refine wk ?_
   exact eQ h'.out
 rw [if_neg (by rw [← hm.out];omega)] at hp
 have k2:¬ (c:Int)=8:=by omega
 replace hp:=hid hp
 replace ht:=hid ht
 replace hf:=hid hf
 refine wk ?_
 refine am (fun n T' L'=>∃ j:Nat,n=s.length - j∧i≤j∧j≤s.length∧Hid (il (s.drop i)=(il (s.drop j)).map fun p=>((s.drop i).take (j - i)++p.1,p.2))∧T'=[(7,.int .i64 (j:Int)),(6,.gsl (aJ now) c p 2),(5,.int .i64 (i:Int)),(4,.gsl (out.map bT) m L.length 1),(0,.str s)]∧L'=L++Z) (CutS (b:=by simp)) ⟨i,rfl,Nat.le_refl _,hi,hid (by rcases il (s.drop i) with _|⟨a,b⟩<;>simp),rfl,rfl⟩ ?_
 rintro _ _ _ ⟨j,rfl,hij,hj,hcut,rfl,rfl⟩
 by_cases hjl:j<s.length
 rotate_left
 · have hje:j=s.length:=by omega
   subst hje
   have g1:¬ (s.length:Int)<(s.length:Int):=by omega
   have e:=hcut.out
   rw [List.drop_length] at e
   simp only [il,Option.map_none] at e
   have h':=h.out
   rw [← hp.out,e] at h'
   simp only at h'
   replace h':=hid h'
   clear e
   refine wk ?_
   exact eQ h'.out
 have g1:(j:Int)<(s.length:Int):=by omega
 have g2:IntKind.i64.wrap ((j:Int)+1)=(j:Int)+1:=ab (by omega) (by omega)
 obtain ⟨x,hx⟩:∃ x,s.getD j 0=x:=⟨_,rfl⟩
 by_cases h61:x=61
 rotate_left
 · have g3:¬ (x.toNat:Int)=61:=fun e=>h61 ((aZ x 61).1 e)
   have hcut':=hid (Mi hij hjl (by rw [hx];exact h61) hcut.out)
   clear h61
   refine wk ?_
   exact aj _ _ _ (by omega) (CutL (b:=by simp)) ⟨j+1,rfl,by omega,hjl,hcut',rfl,rfl⟩
 subst h61
 have g3:((61:UInt8).toNat:Int)=61:=rfl
 have hcutS:il (s.drop i)=some ((s.drop i).take (j - i),s.drop (j+1)):=by
   rw [hcut.out,gn hjl,hx]
   simp [il]
 clear hcut
 obtain ⟨typ,htyp⟩:∃ t,(s.drop i).take (j - i)=t:=⟨_,rfl⟩
 have htl:typ.length≤4096:=by rw [← htyp];have:=hs.out;simp;omega
 have htl3:(typ.length:Int)≤100000:=by omega
 rw [htyp] at hcutS
 have hp2:=hp.out
 rw [hcutS] at hp2
 simp only at hp2
 have g4:¬ (j:Int)=(s.length:Int):=by omega
 have g5:(i:Int)≤(j:Int):=by omega
 have g6:(j:Int)≤(s.length:Int):=by omega
 replace hp2:=hid hp2
 clear hcutS hp
 cases hty:fV typ with
 | false =>
   have h':=h.out
   rw [← hp2.out,if_pos hty] at h'
   replace h':=hid h'
   have kk1:=@hid _ (fun L K=>EO htl3 (L:=L) (K:=K))
   refine wk ?_
   exact eQ h'.out
 | true =>
 have hp3:=hp2.out
 rw [if_neg (by rw [hty];simp)] at hp3
 replace hp3:=hid hp3
 clear hp2
 have hpn:=hid (show p≠L.length+Z.length by have:=hpl.out;omega)
 have b1:∀ b,(L++(Z++[b]))[p]?=some (.spare c 2):=fun b=>by
   rw [← List.append_assoc,List.getElem?_append_left (List.getElem?_eq_some_iff.1 hpi).1];exact hpi
 have b2:∀ A b,(L++(Z++[b])).set p A=L++(Z.set (p - L.length) A++[b]):=fun A b=>by
   rw [List.set_append_right _ _ (by omega),List.set_append_left _ _ (by have:=hpl.out;omega)]
 have b3:∀ A b,(L++(Z.set (p - L.length) A++[b]))[L.length]?=some (.spare m 1):=fun A b=>by
   rw [← b2,List.getElem?_set_ne (by omega),← List.append_assoc,List.getElem?_append_left (List.getElem?_eq_some_iff.1 ho2).1];exact ho2
 have b4:∀ A b,(L++(Z.set (p - L.length) A++[b]))[p]?=some A:=fun A b=>by
   rw [← b2,List.getElem?_set,if_pos rfl,if_pos (by have:=hpl.out;simp;omega)]
 have hsl:(i:Int).toNat=i:=by omega
 have kk1:=@hid _ (fun L K=>EO htl3 (L:=L) (K:=K))
 refine wk ?_
 refine Rc hc hn8 ht.out (by omega) ?_
 cases hha:iT now typ with
 | true =>
   have h':=h.out
   rw [← hp3.out,if_pos hha] at h'
   replace h':=hid h'
   refine sk ?_
   refine wk ?_
   exact eQ h'.out
 | false =>
 have hp4:=hp3.out
 rw [if_neg (by rw [hha];simp)] at hp4
 replace hp4:=hid hp4
 clear hp3
 refine sk ?_
 refine wk ?_
 refine LA (at0:=j+1) (by omega) (by have:=hs.out;omega) hjl ?_
 rcases hvl:gp [] false (s.drop (j+1)) with _|⟨w,r2⟩
 · have h':=h.out
   rw [← hp4.out,hvl] at h'
   simp only at h'
   replace h':=hid h'
   simp only [JJ]
   refine sk ?_
   refine wk ?_
   exact eQ h'.out
 have hp5:=hp4.out
 rw [hvl] at hp5
 simp only at hp5
 have hsuf:=MQ _ (Nat.le_refl _) (Lm hvl)
 have hsd:r2=s.drop (s.length - r2.length):=List.suffix_iff_eq_drop.1 (hsuf.trans (List.drop_suffix _ _))
 have hl2:r2.length≤s.length - (j+1):=by have:=hsuf.length_le;simpa using this
 obtain ⟨t,ht0⟩:∃ t,s.length - r2.length=t:=⟨_,rfl⟩
 rw [ht0] at hsd
 have htj:j<t:=by omega
 have hts:t≤s.length:=by omega
 simp only [JJ,ht0]
 replace hp5:=hid hp5
 clear hp4 hvl hsuf
 replace hsd:=hid hsd
 have q1:(c+1) * 32≤140737488355328:=by omega
 have q2:c+1≤140737488355328:=by omega
 have q3:(m+1) * 24≤140737488355328:=by omega
 have q4:m+1≤140737488355328:=by omega
 have e1:aJ now++[AV.str typ,AV.str w]=aJ (now++[(typ,w)]):=(Hu _ _ _).symm
 have e2:out.map bT++[AV.sl (AV.frzL (aJ now++[AV.str typ,AV.str w])) (c+1) none]=(out++[now++[(typ,w)]]).map bT:=by
   rw [e1,fA,List.map_append]
   simp [hc]
 have e3:(out++[now++[(typ,w)]]).length=m+1:=by simp [hm.out]
 have e4:(now++[(typ,w)]).length=c+1:=by simp [hc]
 have e5:∀ a∈now++[(typ,w)],a.1.length≤32:=fun a ha=>by
   rcases List.mem_append.1 ha with h|h
   · exact ht.out a h
   · rw [List.mem_singleton.1 h];exact kT hty
 have s4:∀ (W:List Blk) A,(L++W).set L.length A=L++W.set 0 A:=fun W A=>by rw [List.set_append_right _ _ (Nat.le_refl _),Nat.sub_self]
 have g7:IntKind.i64.wrap ((t:Int)+1)=(t:Int)+1:=ab (by have:=hs.out;omega) (by have:=hs.out;omega)
 replace e1:=hid e1
 replace e2:=hid e2
 replace e3:=hid e3
 replace e4:=hid e4
 replace e5:=hid e5
 cases r2 with
 | nil =>
   have h':=h.out
   rw [← hp5.out] at h'
   simp only at h'
   replace h':=hid h'
   have hte:t=s.length:=by simp at ht0;omega
   subst hte
   refine sk ?_
   refine wk ?_
   rw [e2.out]
   refine bB (ad ?_ ?_)
   · simp only [AV.frz,AV.frzL,kV,AV.refs,AV.refsL,xw,Bool.and_self]
   · simp only [AV.frz,AV.frzL,kV]
     have:=h'.out
     simp only [JY,e3.out] at this
     exact this
 | cons x s' =>
   simp only at hp5
   have htl2:t<s.length:=by simp at ht0 hl2;omega
   have k3:¬ (t:Int)=(s.length:Int):=by omega
   have k4:(t:Int)<(s.length:Int):=by omega
   have hxd:=hsd.out
   rw [gn htl2] at hxd
   obtain ⟨hx1,hx2⟩:=List.cons.inj hxd
   have hx3:=hx1.symm
   replace hx2:=hid hx2
   clear hxd hx1
   by_cases hx:x=44
   · subst hx
     refine sk ?_
     refine wk ?_
     rw [e2.out]
     refine aj _ _ _ ?_ (CutS (b:=?_)) ⟨g,m+1,t+1,out++[now++[(typ,w)]],_,rfl,htl2,?_,hid fun _=>⟨?_,?_⟩,hid fun e=>?_,hid e3.out.symm,?_,rfl,rfl⟩
     · omega
     · simp
     · have:=hm.out;omega
     · have:=hf.out;omega
     · rw [← hx2.out,← hp5.out,if_pos rfl]
     · rw [e] at htl2;simp at htl2
     · rw [← s4,List.getElem?_set,if_pos rfl,if_pos (by simp)]
   · have q6:¬ (x.toNat:Int)=44:=fun e=>hx ((aZ x 44).1 e)
     refine sk ?_
     refine wk ?_
     rw [e1.out]
     refine aj _ _ _ ?_ (CutS (b:=?_)) ⟨g,t+1,now++[(typ,w)],_,_,rfl,?_,htl2,?_,hid ⟨?_,?_,e5.out,.inr ⟨p,hBi,by rw [e4.out],by rw [e4.out];exact b4 _ _⟩⟩,b3 _ _,?_,rfl,rfl⟩
     · omega
     · have:=hXZ2.out;simp;omega
     · omega
     · rw [e4.out];omega
     · have:=hf.out;omega
     · rw [← hx2.out,← hp5.out,if_neg hx]
     · have:=hXZ2.out;simp;omega
end Go.Proofs.YtohflefnbajajaaGreatDoor.Av
