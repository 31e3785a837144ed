/- Joined texts of the walk, made small by a program. -/
import Derived.Test.YtgpnbkdcdmfgcaaGreatYP4
import Derived.Test.YtgpnbkdcdmfgcaaGreatRows
import Derived.KernelRfl
import Derived.Test.YtgpnbkdcdmfgcaaGreatYD1
import Derived.Test.YtgpnbkdcdmfgcaaGreatYD2
import Derived.Test.YtgpnbkdcdmfgcaaGreatYP5
import Derived.Test.YtgpnbkdcdmfgcaaGreatYShelfG
import Derived.Shelf.Spec.SlicesGrow
import Derived.Test.YtgpnbkdcdmfgcaaGreatYC2
import Derived.Test.YtgpnbkdcdmfgcaaGreatYC1
import Derived.Test.YtgpnbkdcdmfgcaaGreatYA1
set_option linter.unusedSimpArgs false
set_option linter.unusedVariables false
set_option maxRecDepth 100000
namespace Go.Proofs.YtgpnbkdcdmfgcaaGreat.Av
open Go
def lE:List SOp :=
 [o1 1 (.box (tm 0)),
 o1 2 (.alloc [(.int .i64 0),(.sl [] 0 (some 0)),(.sl [] 0 (some 0)),(.sl [] 0 (some 0))])]
def lD:List SOp :=
 [o1 6 (.faddr 0 (tm 1)),
 o1 7 (.load false 1 (tm 6)),
 o1 8 (.bin .neq (tm 7) (iv 4))]
def lC:List SOp :=
 [o1 9 (.faddr 2 (tm 1)),
 o0 (.store 1 (tm 9) (.av (.sl [] 0 (some 0))))]
def lB:List SOp :=
 [o1 10 (.faddr 0 (tm 1)),
 o1 11 (.load false 1 (tm 10)),
 o1 12 (.bin .eql (tm 11) (iv 2))]
def lz:List SOp :=
 [o1 13 (.faddr 3 (tm 1)),
 o0 (.store 1 (tm 13) (.av (.sl [] 0 (some 0))))]
def lw:List (ag×Kd) :=
 [od 14 (.faddr 0 (tm 1)) .pure,
 od 15 (.load false 1 (tm 14)) (.read 0 1),
 od 16 (.faddr 1 (tm 1)) .pure,
 od 17 (.load false 1 (tm 16)) (.read 0 1),
 od 18 (.call 31 [(tm 17),(.av (.sl [] 0 (some 0)))]) (.read 0 1),
 od 19 (.faddr 2 (tm 1)) .pure,
 od 20 (.load false 1 (tm 19)) (.read 0 1),
 od 21 (.call 31 [(tm 20),(.av (.sl [] 0 (some 0)))]) (.read 0 1),
 od 22 (.build [(.int .i64 0),(.sl [] 0 (some 0)),(.sl [] 0 (some 0)),(.sl [] 0 (some 0))] [(0,(1,(tm 15))),(1,(1,(tm 18))),(2,(1,(tm 21)))]) .pure,
 od 3 (.alloc [(.int .i64 0),(.sl [] 0 (some 0)),(.sl [] 0 (some 0)),(.sl [] 0 (some 0))]) .eff]
def jt:List ag :=
 [⟨none,(.store 4 (tm 3) (tm 22)),none⟩]
def lv:List SOp :=
 [o1 23 (.faddr 3 (tm 1)),
 o1 24 (.load false 1 (tm 23)),
 o1 25 (.len false (tm 24)),
 o1 26 (.mv (iv 0))]
def lu:List SOp :=
 [o1 27 (.bin .lss (tm 26) (tm 25))]
def lr:List SOp :=
 [o1 28 (.iaddr 2 (tm 24) (tm 26)),
 o1 29 (.load true 2 (tm 28)),
 o1 5 (.alloc [(.str []),(.sl [] 0 (some 0))]),
 o0 (.store 2 (tm 5) (tm 29))]
def lq:List (ag×Kd) :=
 [od 30 (.faddr 3 (tm 3)) .pure,
 od 31 (.load false 1 (tm 30)) (.read 0 1),
 od 32 (.faddr 0 (tm 5)) .pure,
 od 33 (.load false 1 (tm 32)) (.read 0 1),
 od 34 (.faddr 1 (tm 5)) .pure,
 od 35 (.load false 1 (tm 34)) (.read 0 0),
 od 36 (.app 0 1 16 [(.str [])] (.av (.sl [] 0 (some 0))) (tm 35)) .eff,
 od 37 (.build [(.str []),(.sl [] 0 (some 0))] [(0,(1,(tm 33))),(1,(1,(tm 36)))]) .pure,
 od 38 (.bslice false 2 1 [(.str []),(.sl [] 0 (some 0))] [(0,(2,(tm 37)))]) (.read 0 0)]
def jr:List ag :=
 [⟨(some 39),(.app 1 2 40 [(.str []),(.sl [] 0 (some 0))] (tm 31) (tm 38)),none⟩,
 ⟨(some 40),(.faddr 3 (tm 3)),none⟩,
 ⟨none,(.store 1 (tm 40) (tm 39)),none⟩]
def jv:List SOp :=
 [o1 41 (.bin .add (tm 26) (iv 1)),
 o1 26 (.mv (tm 41))]
def ju:List SOp :=
 [o1 42 (.load true 4 (tm 3)),
 o0 (.store 4 (tm 2) (tm 42))]
def iw:aN:=⟨43,(.seq (.sreg lE [])
 (.seq (.seq (.sreg lD [true,false,false])
 (.cond (tm 8) (.sreg lC [false])
 .skip))
 (.seq (.seq (.sreg lB [true,false,false])
 (.cond (tm 12) (.sreg lz [false])
 .skip))
 (.seq (.dregM lw jt [true,false,false,false,false,false,false,false,false,false])
 (.seq (.seq (.sreg lv [true,true,true,false])
 (.block 0 (.loop (.seq (.sreg lu [])
 (.seq (.cond (tm 27) .skip
 (.exit 0))
 (.seq (.block 1 (.seq (.sreg lr [true,false,false])
 (.dregM lq jr [false,false,false,false,false,false,false,false,false,false,false])))
 (.sreg jv [true,false])))))))
 (.seq (.sreg ju [false])
 .ret)))))),[(.cell true 4 2)]⟩
attribute [push_cast] lE lD lC lB lz lw jt lv lu lr lq jr jv ju
theorem um:aT Tryz.prog (fun r i=>if r=9∧i=6 then 0 else 1) 11=some iw.raw:=by kernel_rfl
def lp:List SOp :=
 [o1 2 (.alloc [(.int .i64 0),(.sl [] 0 (some 0)),(.sl [] 0 (some 0)),(.sl [] 0 (some 0))]),
 o1 3 (.mv (iv 0))]
def ln:List SOp :=
 [o1 11 (.mv (tm 0)),
 o1 12 (.call 34 [(tm 11)]),
 o1 10 (.mv (tm 12)),
 o1 13 (.extract (tm 10) 0),
 o1 14 (.extract (tm 10) 1),
 o1 4 (.alloc [(.int .i64 0),(.str []),(.sl [] 0 (some 0))]),
 o0 (.store 3 (tm 4) (tm 13)),
 o1 5 (.mv (tm 14))]
def lm:List SOp :=
 [o1 15 (.mv (tm 5)),
 o1 16 (.bin .neq (tm 15) (iv 0))]
def lk:List SOp :=
 [o1 17 (.build [(.int .i64 0),(.sl [] 0 (some 0)),(.sl [] 0 (some 0)),(.sl [] 0 (some 0))] []),
 o1 18 (.mv (tm 5)),
 o0 (.store 4 (tm 2) (tm 17)),
 o1 3 (.mv (tm 18))]
def lh:List SOp :=
 [o1 20 (.load true 3 (tm 4)),
 o1 21 (.call 35 [(tm 20)]),
 o1 19 (.mv (tm 21)),
 o1 22 (.extract (tm 19) 0),
 o1 23 (.extract (tm 19) 1),
 o1 6 (.alloc [(.int .i64 0),(.sl [] 0 (some 0)),(.sl [] 0 (some 0)),(.sl [] 0 (some 0))]),
 o0 (.store 4 (tm 6) (tm 22)),
 o1 7 (.mv (tm 23))]
def lb:List SOp :=
 [o1 24 (.mv (tm 7)),
 o1 25 (.un .not (tm 24))]
def la:List SOp :=
 [o1 26 (.build [(.int .i64 0),(.sl [] 0 (some 0)),(.sl [] 0 (some 0)),(.sl [] 0 (some 0))] []),
 o0 (.store 4 (tm 2) (tm 26)),
 o1 3 (.mv (iv 4))]
def k9:List SOp :=
 [o1 28 (.load true 4 (tm 6)),
 o1 29 (.call 8 [(tm 28)]),
 o1 27 (.mv (tm 29)),
 o1 30 (.extract (tm 27) 0),
 o1 31 (.extract (tm 27) 1),
 o1 8 (.mv (tm 30)),
 o1 9 (.mv (tm 31))]
def k8:List SOp :=
 [o1 32 (.mv (tm 9)),
 o1 33 (.bin .neq (tm 32) (iv 0)),
 o1 34 (.mv (tm 33)),
 .grp none 34 false
 [og 35 34 false (.mv (tm 8)),
 og 36 34 false (.mv (tm 0)),
 og 37 34 false (.bin .neq (tm 35) (tm 36))]
 38 (tm 37)]
def k7:List SOp :=
 [o1 39 (.build [(.int .i64 0),(.sl [] 0 (some 0)),(.sl [] 0 (some 0)),(.sl [] 0 (some 0))] []),
 o0 (.store 4 (tm 2) (tm 39)),
 o1 3 (.mv (iv 4))]
def jq:List SOp :=
 [o1 40 (.load true 4 (tm 6)),
 o1 41 (.call 11 [(tm 40)]),
 o0 (.store 4 (tm 2) (tm 41)),
 o1 3 (.mv (iv 0))]
def aM:aN:=⟨42,(.seq (.sreg lp [])
 (.seq (.sreg ln [true,true,false,false,false,false,false])
 (.seq (.seq (.sreg lm [true,false])
 (.cond (tm 16) (.seq (.sreg lk [true,false,false])
 .ret)
 .skip))
 (.seq (.sreg lh [true,true,false,false,false,false,false])
 (.seq (.seq (.sreg lb [true,false])
 (.cond (tm 25) (.seq (.sreg la [true,false])
 .ret)
 .skip))
 (.seq (.seq (.sreg k9 [true,true,false,false,false,false,false])
 (.seq (.sreg k8 [true,false,false,false])
 (.cond (tm 38) (.seq (.sreg k7 [true,false])
 .ret)
 .skip)))
 (.seq (.sreg jq [true,false,false])
 .ret))))))),[(.cell true 4 2),(.tmp 3)]⟩
attribute [push_cast] lp ln lm lk lh lb la k9 k8 k7 jq
theorem cB:aT Tryz.prog (fun _ _=>1) 13=some aM.raw:=by kernel_rfl
def kZ:List SOp :=
 [o1 1 (.box (tm 0)),
 o1 2 (.alloc [(.int .i64 0),(.sl [] 0 (some 0)),(.sl [] 0 (some 0)),(.sl [] 0 (some 0))]),
 o1 3 (.mv (.av (.bool false)))]
def kY:List SOp :=
 [o1 18 (.faddr 2 (tm 1)),
 o1 19 (.load false 1 (tm 18)),
 o1 4 (.mv (tm 19))]
def kX:List SOp :=
 [o1 20 (.mv (tm 4)),
 o1 21 (.len false (tm 20)),
 o1 22 (.bin .lss (tm 21) (iv 2)),
 o1 23 (.mv (tm 22)),
 .grp none 23 false
 [og 24 23 false (.mv (tm 4)),
 og 25 23 false (.len false (tm 24)),
 og 26 23 false (.bin .gtr (tm 25) (iv 4))]
 27 (tm 26)]
def kW:List SOp :=
 [o1 28 (.build [(.int .i64 0),(.sl [] 0 (some 0)),(.sl [] 0 (some 0)),(.sl [] 0 (some 0))] []),
 o0 (.store 4 (tm 2) (tm 28)),
 o1 3 (.mv (.av (.bool false)))]
def kV:List SOp :=
 [o1 30 (.mv (tm 4)),
 o1 31 (.iaddr 3 (tm 30) (iv 0)),
 o1 32 (.faddr 1 (tm 31)),
 o1 33 (.load false 1 (tm 32)),
 o1 34 (.call 51 [(tm 33)]),
 o1 29 (.mv (tm 34)),
 o1 35 (.extract (tm 29) 0),
 o1 36 (.extract (tm 29) 1),
 o1 5 (.mv (tm 35)),
 o1 6 (.mv (tm 36))]
def kU:List SOp :=
 [o1 37 (.mv (tm 6)),
 o1 38 (.un .not (tm 37))]
def kT:List SOp :=
 [o1 39 (.build [(.int .i64 0),(.sl [] 0 (some 0)),(.sl [] 0 (some 0)),(.sl [] 0 (some 0))] []),
 o0 (.store 4 (tm 2) (tm 39)),
 o1 3 (.mv (.av (.bool false)))]
def kS:List SOp :=
 [o1 40 (.mv (tm 5)),
 o1 41 (.build [(.int .i64 0),(.sl [] 0 (some 0)),(.sl [] 0 (some 0)),(.sl [] 0 (some 0))] [(0,(1,(tm 40)))]),
 o1 7 (.alloc [(.int .i64 0),(.sl [] 0 (some 0)),(.sl [] 0 (some 0)),(.sl [] 0 (some 0))]),
 o0 (.store 4 (tm 7) (tm 41))]
def kR:List SOp :=
 [o1 8 (.mv (iv 0)),
 o1 9 (.mv (iv 0))]
def kQ:List SOp :=
 [o1 43 (.mv (tm 4)),
 o1 44 (.iaddr 3 (tm 43) (iv 1)),
 o1 45 (.faddr 1 (tm 44)),
 o1 46 (.load false 1 (tm 45)),
 o1 47 (.call 52 [(tm 46)]),
 o1 42 (.mv (tm 47)),
 o1 48 (.extract (tm 42) 0),
 o1 49 (.extract (tm 42) 1),
 o1 50 (.faddr 1 (tm 7)),
 o0 (.store 1 (tm 50) (tm 48)),
 o1 8 (.mv (tm 49))]
def jf:List SOp :=
 [o1 51 (.mv (tm 4)),
 o1 52 (.slV 3 (tm 51) (some (iv 2)) none none),
 o1 10 (.mv (tm 52))]
def je:List SOp :=
 [o1 53 (.faddr 0 (tm 7)),
 o1 54 (.load false 1 (tm 53)),
 o1 55 (.bin .eql (tm 54) (iv 4)),
 o1 56 (.mv (tm 55)),
 .grp none 56 true
 [og 57 56 true (.mv (tm 10)),
 og 58 56 true (.len false (tm 57)),
 og 59 56 true (.bin .gtr (tm 58) (iv 0))]
 60 (tm 59)]
def jd:List SOp :=
 [o1 62 (.mv (tm 10)),
 o1 63 (.iaddr 3 (tm 62) (iv 0)),
 o1 64 (.faddr 1 (tm 63)),
 o1 65 (.load false 1 (tm 64)),
 o1 66 (.call 52 [(tm 65)]),
 o1 61 (.mv (tm 66)),
 o1 67 (.extract (tm 61) 0),
 o1 68 (.extract (tm 61) 1),
 o1 69 (.faddr 2 (tm 7)),
 o0 (.store 1 (tm 69) (tm 67)),
 o1 9 (.mv (tm 68))]
def jc:List SOp :=
 [o1 70 (.mv (tm 10)),
 o1 71 (.slV 3 (tm 70) (some (iv 1)) none none),
 o1 10 (.mv (tm 71))]
def jb:List SOp :=
 [o1 72 (.mv (tm 8)),
 o1 73 (.bin .neq (tm 72) (iv 0)),
 o1 74 (.mv (tm 73)),
 .grp none 74 false
 [og 75 74 false (.mv (tm 9)),
 og 76 74 false (.bin .neq (tm 75) (iv 0))]
 77 (tm 76),
 o1 78 (.mv (tm 77)),
 .grp none 78 false
 [og 79 78 false (.mv (tm 10)),
 og 80 78 false (.len false (tm 79)),
 og 81 78 false (.bin .gtr (tm 80) (iv 1))]
 82 (tm 81)]
def ja:List SOp :=
 [o1 83 (.build [(.int .i64 0),(.sl [] 0 (some 0)),(.sl [] 0 (some 0)),(.sl [] 0 (some 0))] []),
 o0 (.store 4 (tm 2) (tm 83)),
 o1 3 (.mv (.av (.bool false)))]
def i9:List SOp :=
 [o1 84 (.mv (tm 10)),
 o1 85 (.len false (tm 84)),
 o1 86 (.mv (iv 0))]
def i8:List SOp :=
 [o1 87 (.bin .lss (tm 86) (tm 85))]
def i7:List SOp :=
 [o1 88 (.iaddr 3 (tm 84) (tm 86)),
 o1 89 (.load true 3 (tm 88)),
 o1 12 (.alloc [(.int .i64 0),(.str []),(.sl [] 0 (some 0))]),
 o0 (.store 3 (tm 12) (tm 89))]
def i6:List SOp :=
 [o1 90 (.faddr 2 (tm 12)),
 o1 91 (.load false 1 (tm 90)),
 o1 92 (.len false (tm 91)),
 o1 93 (.mv (iv 0))]
def i5:List SOp :=
 [o1 94 (.bin .lss (tm 93) (tm 92))]
def iZ:List SOp :=
 [o1 95 (.iaddr 3 (tm 91) (tm 93)),
 o1 96 (.load true 3 (tm 95)),
 o1 14 (.alloc [(.int .i64 0),(.str []),(.sl [] 0 (some 0))]),
 o0 (.store 3 (tm 14) (tm 96))]
def iY:List SOp :=
 [o1 97 (.faddr 2 (tm 14)),
 o1 98 (.load false 1 (tm 97)),
 o1 99 (.len false (tm 98)),
 o1 100 (.bin .neq (tm 99) (iv 2))]
def iX:List SOp :=
 [o1 101 (.build [(.int .i64 0),(.sl [] 0 (some 0)),(.sl [] 0 (some 0)),(.sl [] 0 (some 0))] []),
 o0 (.store 4 (tm 2) (tm 101)),
 o1 3 (.mv (.av (.bool false)))]
def iW:List SOp :=
 [o1 102 (.faddr 2 (tm 14)),
 o1 103 (.load false 1 (tm 102)),
 o1 104 (.iaddr 3 (tm 103) (iv 0)),
 o1 105 (.faddr 1 (tm 104)),
 o1 106 (.load false 1 (tm 105)),
 o1 107 (.build [(.str []),(.sl [] 0 (some 0))] [(0,(1,(tm 106)))]),
 o1 15 (.alloc [(.str []),(.sl [] 0 (some 0))]),
 o0 (.store 2 (tm 15) (tm 107))]
def iV:List SOp :=
 [o1 108 (.faddr 2 (tm 14)),
 o1 109 (.load false 1 (tm 108)),
 o1 110 (.iaddr 3 (tm 109) (iv 1)),
 o1 111 (.faddr 2 (tm 110)),
 o1 112 (.load false 1 (tm 111)),
 o1 113 (.len false (tm 112)),
 o1 114 (.mv (iv 0))]
def iU:List SOp :=
 [o1 115 (.bin .lss (tm 114) (tm 113))]
def iT:List SOp :=
 [o1 116 (.iaddr 3 (tm 112) (tm 114)),
 o1 117 (.load true 3 (tm 116)),
 o1 17 (.alloc [(.int .i64 0),(.str []),(.sl [] 0 (some 0))]),
 o0 (.store 3 (tm 17) (tm 117))]
def iS:List SOp :=
 [o1 118 (.faddr 1 (tm 15)),
 o1 119 (.load false 1 (tm 118)),
 o1 120 (.faddr 1 (tm 17)),
 o1 121 (.load false 1 (tm 120)),
 o1 122 (.bslice false 1 1 [(.str [])] [(0,(1,(tm 121)))]),
 o1 123 (.app 1 1 16 [(.str [])] (tm 119) (tm 122)),
 o1 124 (.faddr 1 (tm 15)),
 o0 (.store 1 (tm 124) (tm 123))]
def iR:List SOp :=
 [o1 125 (.bin .add (tm 114) (iv 1)),
 o1 114 (.mv (tm 125))]
def iQ:List SOp :=
 [o1 126 (.faddr 3 (tm 7)),
 o1 127 (.load false 1 (tm 126)),
 o1 128 (.load true 2 (tm 15)),
 o1 129 (.bslice false 2 1 [(.str []),(.sl [] 0 (some 0))] [(0,(2,(tm 128)))]),
 o1 130 (.app 1 2 40 [(.str []),(.sl [] 0 (some 0))] (tm 127) (tm 129)),
 o1 131 (.faddr 3 (tm 7)),
 o0 (.store 1 (tm 131) (tm 130))]
def iP:List SOp :=
 [o1 132 (.bin .add (tm 93) (iv 1)),
 o1 93 (.mv (tm 132))]
def iO:List SOp :=
 [o1 133 (.bin .add (tm 86) (iv 1)),
 o1 86 (.mv (tm 133))]
def iN:List SOp :=
 [o1 134 (.load true 4 (tm 7)),
 o0 (.store 4 (tm 2) (tm 134)),
 o1 3 (.mv (.av (.bool true)))]
def be:aN:=⟨135,(.seq (.sreg kZ [])
 (.seq (.sreg kY [true,false,false])
 (.seq (.seq (.sreg kX [true,false,false,false,false])
 (.cond (tm 27) (.seq (.sreg kW [true,false])
 .ret)
 .skip))
 (.seq (.sreg kV [true,true,false,false,false,false,false,false,false,false])
 (.seq (.seq (.sreg kU [true,false])
 (.cond (tm 38) (.seq (.sreg kT [true,false])
 .ret)
 .skip))
 (.seq (.sreg kS [true,false,false])
 (.seq (.sreg kR [])
 (.seq (.sreg kQ [true,false,false,false,false,false,false,false,false,false])
 (.seq (.sreg jf [true,false,false])
 (.seq (.seq (.sreg je [true,false,false,false,false])
 (.cond (tm 60) (.seq (.sreg jd [true,false,false,false,false,false,false,false,false,false])
 (.sreg jc [true,false,false]))
 .skip))
 (.seq (.seq (.sreg jb [true,false,false,false,false,false])
 (.cond (tm 82) (.seq (.sreg ja [true,false])
 .ret)
 .skip))
 (.seq (.seq (.sreg i9 [])
 (.block 0 (.loop (.seq (.sreg i8 [])
 (.seq (.cond (tm 87) .skip
 (.exit 0))
 (.seq (.block 1 (.seq (.sreg i7 [true,false,false])
 (.seq (.sreg i6 [true,true,true,false])
 (.block 2 (.loop (.seq (.sreg i5 [])
 (.seq (.cond (tm 94) .skip
 (.exit 2))
 (.seq (.block 3 (.seq (.sreg iZ [true,false,false])
 (.seq (.seq (.sreg iY [true,false,false,false])
 (.cond (tm 100) (.seq (.sreg iX [true,false])
 .ret)
 .skip))
 (.seq (.sreg iW [true,false,false,false,false,false,false])
 (.seq (.seq (.sreg iV [true,true,true,false,false,false,false])
 (.block 4 (.loop (.seq (.sreg iU [])
 (.seq (.cond (tm 115) .skip
 (.exit 4))
 (.seq (.block 5 (.seq (.sreg iT [true,false,false])
 (.sreg iS [false,false,false,false,false,false,false])))
 (.sreg iR [true,false])))))))
 (.sreg iQ [false,false,false,false,false,false]))))))
 (.sreg iP [true,false])))))))))
 (.sreg iO [true,false])))))))
 (.seq (.sreg iN [true,false])
 .ret))))))))))))),[(.cell true 4 2),(.tmp 3)]⟩
attribute [push_cast] kZ kY kX kW kV kU kT kS kR kQ jf je jd jc jb ja i9 i8 i7 i6 i5 iZ iY iX iW iV iU iT iS iR iQ iP iO iN
theorem dl:aT Tryz.prog (fun _ _=>1) 35=some be.raw:=by kernel_rfl
def ii:List SOp :=
 [o1 4 (.mv (iv 0)),
 o1 5 (.mv (iv 0))]
def ig:List SOp :=
 [o1 10 (.mv (tm 0)),
 o1 11 (.eqk false .ptr (tm 10) (.av .nilptr))]
def ie:List SOp :=
 [o1 4 (.mv (iv 0)),
 o1 5 (.mv (iv 1))]
def ic:List SOp :=
 [o1 12 (.mv (tm 1)),
 o1 13 (.len false (tm 12)),
 o1 14 (.mv (iv 0))]
def ib:List SOp :=
 [o1 15 (.bin .lss (tm 14) (tm 13))]
def ia:List SOp :=
 [o1 16 (.mv (tm 14)),
 o1 17 (.iaddr 1 (tm 12) (tm 14)),
 o1 18 (.load false 1 (tm 17)),
 o1 6 (.mv (tm 16)),
 o1 7 (.mv (tm 18))]
def hZ:List SOp :=
 [o1 20 (.mv (tm 7)),
 o1 21 (.call 13 [(tm 20)]),
 o1 19 (.mv (tm 21)),
 o1 22 (.extract (tm 19) 0),
 o1 23 (.extract (tm 19) 1),
 o1 8 (.alloc [(.int .i64 0),(.sl [] 0 (some 0)),(.sl [] 0 (some 0)),(.sl [] 0 (some 0))]),
 o0 (.store 4 (tm 8) (tm 22)),
 o1 9 (.mv (tm 23))]
def hY:List SOp :=
 [o1 24 (.mv (tm 9)),
 o1 25 (.bin .neq (tm 24) (iv 0))]
def hG:List SOp :=
 [o1 26 (.mv (tm 6)),
 o1 27 (.mv (tm 9)),
 o1 4 (.mv (tm 26)),
 o1 5 (.mv (tm 27))]
def gZ:List SOp :=
 [o1 28 (.mv (tm 0)),
 o1 29 (.load true 4 (tm 8)),
 o1 30 (.call 39 [(tm 28),(tm 29)]),
 o1 31 (.bin .neq (tm 30) (iv 0))]
def fW:List SOp :=
 [o1 32 (.mv (tm 6)),
 o1 4 (.mv (tm 32)),
 o1 5 (.mv (iv 4))]
def fV:List SOp :=
 [o1 33 (.bin .add (tm 14) (iv 1)),
 o1 14 (.mv (tm 33))]
def fU:List SOp :=
 [o1 34 (.mv (tm 1)),
 o1 35 (.len false (tm 34)),
 o1 4 (.mv (tm 35)),
 o1 5 (.mv (iv 0))]
def eN:aN:=⟨36,(.seq (.sreg ii [])
 (.seq (.seq (.sreg ig [true,false])
 (.cond (tm 11) (.seq (.sreg ie [])
 .ret)
 .skip))
 (.seq (.seq (.sreg ic [])
 (.block 0 (.loop (.seq (.sreg ib [])
 (.seq (.cond (tm 15) .skip
 (.exit 0))
 (.seq (.block 1 (.seq (.sreg ia [true,true,false,false,false])
 (.seq (.sreg hZ [true,true,false,false,false,false,false])
 (.seq (.seq (.sreg hY [true,false])
 (.cond (tm 25) (.seq (.sreg hG [true,true,false,false])
 .ret)
 .skip))
 (.seq (.sreg gZ [true,false,false,false])
 (.cond (tm 31) (.seq (.sreg fW [true,true,false])
 .ret)
 .skip))))))
 (.sreg fV [true,false])))))))
 (.seq (.sreg fU [true,true,false,false])
 .ret)))),[(.tmp 4),(.tmp 5)]⟩
attribute [push_cast] ii ig ie ic ib ia hZ hY hG gZ fW fV fU
theorem rI:aT Tryz.prog (fun _ _=>1) 17=some eN.raw:=by kernel_rfl
def vx:List SOp :=
 [o1 4 (.mv (.av (.sl [] 0 (some 0))))]
def vw:List SOp :=
 [o1 5 (.mv (.av (.sl [] 0 (some 0))))]
def vv:List SOp :=
 [o1 8 (.mv (tm 1)),
 o1 9 (.mv (tm 0)),
 o1 10 (.bslice false 1 2 [(.sl [] 0 (some 0)),(.sl [] 0 (some 0))] [(0,(1,(tm 8))),(1,(1,(tm 9)))]),
 o1 11 (.call 49 [(tm 10)]),
 o1 12 (.len false (tm 11)),
 o1 13 (.mv (iv 0))]
def vu:List SOp :=
 [o1 14 (.bin .lss (tm 13) (tm 12))]
def vt:List SOp :=
 [o1 15 (.iaddr 1 (tm 11) (tm 13)),
 o1 16 (.load false 1 (tm 15)),
 o1 7 (.mv (tm 16))]
def vr:List SOp :=
 [o1 17 (.mv (tm 5)),
 o1 18 (.mv (tm 7)),
 o1 19 (.app 0 2 32 [(.str []),(.str [])] (.av (.sl [] 0 (some 0))) (tm 18)),
 o1 20 (.bslice false 1 1 [(.sl [] 0 (some 0))] [(0,(1,(tm 19)))]),
 o1 21 (.app 1 1 24 [(.sl [] 0 (some 0))] (tm 17) (tm 20)),
 o1 5 (.mv (tm 21))]
def vq:List SOp :=
 [o1 22 (.bin .add (tm 13) (iv 1)),
 o1 13 (.mv (tm 22))]
def vp:List SOp :=
 [o1 23 (.mv (tm 5)),
 o1 4 (.mv (tm 23))]
def uv:aN:=⟨24,(.seq (.sreg vx [])
 (.seq (.sreg vw [])
 (.seq (.seq (.sreg vv [true,true,true,false,false,false])
 (.block 0 (.loop (.seq (.sreg vu [])
 (.seq (.cond (tm 14) .skip
 (.exit 0))
 (.seq (.block 1 (.seq (.sreg vt [true,false,false])
 (.sreg vr [true,false,false,false,false,false])))
 (.sreg vq [true,false])))))))
 (.seq (.sreg vp [true,false])
 .ret)))),[(.tmp 4)]⟩
attribute [push_cast] vx vw vv vu vt vr vq vp
theorem yF:aT Tryz.prog (fun r i=>if r=5∧i=2 then 0 else 1) 31=some uv.raw:=by kernel_rfl
def cf:List SOp :=
 [o1 2 (.mv (.av (.sl [] 0 (some 0))))]
def ce:List SOp :=
 [o1 3 (.mv (iv 0))]
def cc:List SOp :=
 [o1 9 (.mv (tm 0)),
 o1 10 (.len false (tm 9)),
 o1 11 (.mv (iv 0))]
def cb:List SOp :=
 [o1 12 (.bin .lss (tm 11) (tm 10))]
def ca:List SOp :=
 [o1 13 (.iaddr 1 (tm 9) (tm 11)),
 o1 14 (.load false 1 (tm 13)),
 o1 5 (.mv (tm 14))]
def b9:List SOp :=
 [o1 15 (.mv (tm 3)),
 o1 16 (.mv (tm 5)),
 o1 17 (.len false (tm 16)),
 o1 18 (.bin .add (tm 15) (tm 17)),
 o1 3 (.mv (tm 18))]
def bZ:List SOp :=
 [o1 19 (.mv (tm 3)),
 o1 20 (.bin .lss (tm 19) (iv 0))]
def bY:List SOp :=
 [o1 21 (.mkif 9 (.av (.str [108,101,110,32,111,117,116,32,111,102,32,114,97,110,103,101]))),
 .op ⟨none,.bad,none⟩]
def bX:List SOp :=
 [o1 22 (.bin .add (tm 11) (iv 1)),
 o1 11 (.mv (tm 22))]
def bW:List SOp :=
 [o1 23 (.mv (tm 3)),
 o1 24 (.call 73 [(.av (.sl [] 0 (some 0))),(tm 23)]),
 o1 6 (.mv (tm 24))]
def bL:List SOp :=
 [o1 25 (.mv (tm 0)),
 o1 26 (.len false (tm 25)),
 o1 27 (.mv (iv 0))]
def bK:List SOp :=
 [o1 28 (.bin .lss (tm 27) (tm 26))]
def bJ:List SOp :=
 [o1 29 (.iaddr 1 (tm 25) (tm 27)),
 o1 30 (.load false 1 (tm 29)),
 o1 8 (.mv (tm 30))]
def bI:List SOp :=
 [o1 31 (.mv (tm 6)),
 o1 32 (.mv (tm 8)),
 o1 33 (.app 1 1 24 [(.sl [] 0 (some 0))] (tm 31) (tm 32)),
 o1 6 (.mv (tm 33))]
def bH:List SOp :=
 [o1 34 (.bin .add (tm 27) (iv 1)),
 o1 27 (.mv (tm 34))]
def bG:List SOp :=
 [o1 35 (.mv (tm 6)),
 o1 2 (.mv (tm 35))]
def ba:aN:=⟨36,(.seq (.sreg cf [])
 (.seq (.sreg ce [])
 (.seq (.seq (.sreg cc [])
 (.block 0 (.loop (.seq (.sreg cb [])
 (.seq (.cond (tm 12) .skip
 (.exit 0))
 (.seq (.block 1 (.seq (.sreg ca [true,false,false])
 (.seq (.sreg b9 [true,false,false,false,false])
 (.seq (.sreg bZ [true,false])
 (.cond (tm 20) (.sreg bY [false])
 .skip)))))
 (.sreg bX [true,false])))))))
 (.seq (.sreg bW [true,false,false])
 (.seq (.seq (.sreg bL [])
 (.block 2 (.loop (.seq (.sreg bK [])
 (.seq (.cond (tm 28) .skip
 (.exit 2))
 (.seq (.block 3 (.seq (.sreg bJ [true,false,false])
 (.sreg bI [true,false,false,false])))
 (.sreg bH [true,false])))))))
 (.seq (.sreg bG [true,false])
 .ret)))))),[(.tmp 2)]⟩
attribute [push_cast] cf ce cc cb ca b9 bZ bY bX bW bL bK bJ bI bH bG
theorem dD:aT Tryz.prog (fun _ _=>1) 49=some ba.raw:=by kernel_rfl
def sf:List SOp :=
 [o1 2 (.mv (.av .nilptr)),
 o1 3 (.mv (iv 0))]
def se:List SOp :=
 [o1 7 (.mv (tm 0)),
 o1 8 (.call 20 [(tm 7)]),
 o1 6 (.mv (tm 8)),
 o1 9 (.extract (tm 6) 0),
 o1 10 (.extract (tm 6) 1),
 o1 4 (.mv (tm 9)),
 o1 5 (.mv (tm 10))]
def sd:List SOp :=
 [o1 11 (.mv (tm 5)),
 o1 12 (.bin .neq (tm 11) (iv 0))]
def sc:List SOp :=
 [o1 13 (.mv (tm 5)),
 o1 2 (.mv (.av .nilptr)),
 o1 3 (.mv (tm 13))]
def sb:List SOp :=
 [o1 14 (.mv (tm 0)),
 o1 15 (.len false (tm 14)),
 o1 16 (.bin .eql (tm 15) (iv 0))]
def sa:List SOp :=
 [o1 2 (.mv (.av .nilptr)),
 o1 3 (.mv (iv 2))]
def rZ:List SOp :=
 [o1 17 (.mv (tm 0)),
 o1 18 (.call 31 [(tm 17),(.av (.sl [] 0 (some 0)))]),
 .op ⟨(some 19),.mkmap,none⟩,
 .op ⟨(some 20),.mkmap,none⟩,
 o1 21 (.build [(.sl [] 0 (some 0)),.nilmap,.nilmap,(.int .i64 0)] [(0,(1,(tm 18))),(1,(1,(tm 19))),(2,(1,(tm 20))),(3,(1,(iv 0)))]),
 o1 22 (.box (tm 21)),
 o1 23 (.build [.nilptr] [(0,(1,(tm 22)))]),
 o1 24 (.box (tm 23)),
 o1 2 (.mv (tm 24)),
 o1 3 (.mv (iv 0))]
def rF:aN:=⟨25,(.seq (.sreg sf [])
 (.seq (.seq (.sreg se [true,false,false,false,false,false,false])
 (.seq (.sreg sd [true,false])
 (.cond (tm 12) (.seq (.sreg sc [true,true,false])
 .ret)
 .skip)))
 (.seq (.seq (.sreg sb [true,false,false])
 (.cond (tm 16) (.seq (.sreg sa [])
 .ret)
 .skip))
 (.seq (.sreg rZ [true,true,false,false,false,false,false,false,false,false])
 .ret)))),[(.tmp 2),(.tmp 3)]⟩
attribute [push_cast] sf se sd sc sb sa rZ
theorem xy:aT Tryz.prog (fun _ _=>1) 16=some rF.raw:=by kernel_rfl
def iM:List SOp :=
 [o1 3 (.box (tm 1)),
 o1 4 (.mv (iv 0))]
def iL:List SOp :=
 [o1 17 (.mv (tm 0)),
 o1 18 (.eqk false .ptr (tm 17) (.av .nilptr))]
def iK:List SOp :=
 [o1 4 (.mv (iv 1))]
def iJ:List SOp :=
 [o1 19 (.mv (tm 0)),
 o1 20 (.nilchk (tm 19)),
 o1 21 (.faddr 0 (tm 20)),
 o1 22 (.load false 1 (tm 21)),
 o1 23 (.load true 4 (tm 3)),
 o1 24 (.call 55 [(tm 22),(tm 23)]),
 o1 5 (.mv (tm 24))]
def iI:List SOp :=
 [o1 25 (.mv (tm 5)),
 o1 26 (.bin .neq (tm 25) (iv 0))]
def iH:List SOp :=
 [o1 27 (.mv (tm 5)),
 o1 4 (.mv (tm 27))]
def iG:List SOp :=
 [o1 28 (.mv (tm 0)),
 o1 29 (.nilchk (tm 28)),
 o1 30 (.faddr 0 (tm 29)),
 o1 31 (.load false 1 (tm 30)),
 o1 32 (.faddr 1 (tm 3)),
 o1 33 (.load false 1 (tm 32)),
 o1 34 (.call 56 [(tm 31),(tm 33)]),
 o1 6 (.mv (tm 34))]
def iF:List SOp :=
 [o1 35 (.faddr 0 (tm 3)),
 o1 36 (.load false 1 (tm 35))]
def iE:List SOp :=
 [o1 38 (.bin .eql (tm 36) (iv 1)),
 o1 37 (.mv (tm 38))]
def iD:List SOp :=
 [o1 39 (.mv (tm 0)),
 o1 40 (.nilchk (tm 39)),
 o1 41 (.faddr 0 (tm 40)),
 o1 42 (.load false 1 (tm 41)),
 o1 43 (.nilchk (tm 42)),
 o1 44 (.faddr 3 (tm 43)),
 o1 45 (.load false 1 (tm 44)),
 o1 46 (.bin .add (tm 45) (iv 1)),
 o1 47 (.nilchk (tm 42)),
 o1 48 (.faddr 3 (tm 47)),
 o0 (.store 1 (tm 48) (tm 46))]
def gP:List (ag×Kd) :=
 [od 49 (.mv (tm 0)) .pure,
 od 50 (.nilchk (tm 49)) (.read 0 1),
 od 51 (.faddr 0 (tm 50)) .pure,
 od 52 (.load false 1 (tm 51)) (.read 0 1),
 od 53 (.nilchk (tm 52)) (.read 0 1),
 od 54 (.faddr 1 (tm 53)) .pure,
 od 55 (.load false 1 (tm 54)) (.read 0 1),
 od 56 (.mv (tm 0)) .pure,
 od 57 (.nilchk (tm 56)) (.read 0 1),
 od 58 (.faddr 0 (tm 57)) .pure,
 od 59 (.load false 1 (tm 58)) (.read 0 1),
 od 60 (.nilchk (tm 59)) (.read 0 1),
 od 61 (.faddr 3 (tm 60)) .pure,
 od 62 (.load false 1 (tm 61)) (.read 0 1),
 od 63 (.faddr 3 (tm 3)) .pure,
 od 64 (.load false 1 (tm 63)) (.read 0 0),
 od 65 (.call 57 [(tm 64)]) (.read 0 0),
 od 66 (.build [(.sl [] 0 (some 0)),(.sl [] 0 (some 0)),(.sl [] 0 (some 0)),(.int .i64 0)] [(2,(1,(tm 65)))]) .pure,
 od 67 (.box (tm 66)) .eff]
def fR:List ag :=
 [⟨none,(.mset .int (tm 55) (tm 62) (tm 67)),none⟩]
def gO:List SOp :=
 [o1 68 (.mv (tm 0)),
 o1 69 (.mv (tm 0)),
 o1 70 (.nilchk (tm 69)),
 o1 71 (.faddr 0 (tm 70)),
 o1 72 (.load false 1 (tm 71)),
 o1 73 (.nilchk (tm 72)),
 o1 74 (.faddr 3 (tm 73)),
 o1 75 (.load false 1 (tm 74)),
 o1 76 (.faddr 1 (tm 3)),
 o1 77 (.load false 1 (tm 76)),
 o1 78 (.call 58 [(tm 68),(tm 75),(tm 77)])]
def gN:List SOp :=
 [o1 79 (.mv (tm 0)),
 o1 80 (.faddr 1 (tm 3)),
 o1 81 (.load false 1 (tm 80)),
 o1 82 (.call 59 [(tm 79),(tm 81),(iv 1)])]
def gM:List SOp :=
 [o1 84 (.bin .eql (tm 36) (iv 2)),
 o1 83 (.mv (tm 84))]
def gL:List SOp :=
 [o1 86 (.faddr 1 (tm 3)),
 o1 87 (.load false 1 (tm 86)),
 o1 88 (.call 60 [(tm 87)]),
 o1 85 (.mv (tm 88)),
 o1 89 (.extract (tm 85) 0),
 o1 90 (.extract (tm 85) 1),
 o1 7 (.mv (tm 89)),
 o1 8 (.mv (tm 90))]
def gK:List SOp :=
 [o1 91 (.mv (tm 0)),
 o1 92 (.nilchk (tm 91)),
 o1 93 (.faddr 0 (tm 92)),
 o1 94 (.load false 1 (tm 93)),
 o1 95 (.nilchk (tm 94)),
 o1 96 (.faddr 2 (tm 95)),
 o1 97 (.load false 1 (tm 96)),
 o1 98 (.mv (tm 7)),
 o0 (.mdel .str (tm 97) (tm 98))]
def gJ:List SOp :=
 [o1 99 (.mv (tm 0)),
 o1 100 (.nilchk (tm 99)),
 o1 101 (.faddr 0 (tm 100)),
 o1 102 (.load false 1 (tm 101)),
 o1 103 (.nilchk (tm 102)),
 o1 104 (.faddr 1 (tm 103)),
 o1 105 (.load false 1 (tm 104)),
 o1 106 (.mv (tm 6)),
 o0 (.mdel .int (tm 105) (tm 106))]
def gI:List SOp :=
 [o1 107 (.mv (tm 0)),
 o1 108 (.faddr 1 (tm 3)),
 o1 109 (.load false 1 (tm 108)),
 o1 110 (.call 59 [(tm 107),(tm 109),(iv (-1))])]
def gH:List SOp :=
 [o1 112 (.bin .eql (tm 36) (iv 3)),
 o1 111 (.mv (tm 112))]
def gG:List (ag×Kd) :=
 [od 113 (.mv (tm 0)) .pure,
 od 114 (.nilchk (tm 113)) (.read 0 0),
 od 115 (.faddr 0 (tm 114)) .pure,
 od 116 (.load false 1 (tm 115)) (.read 0 0),
 od 117 (.nilchk (tm 116)) (.read 0 0),
 od 118 (.faddr 1 (tm 117)) .pure,
 od 119 (.load false 1 (tm 118)) (.read 0 0),
 od 120 (.mv (tm 6)) .pure,
 od 121 (.mget .int false .nilptr (tm 119) (tm 120)) (.read 0 0),
 od 122 (.faddr 3 (tm 3)) .pure,
 od 123 (.load false 1 (tm 122)) (.read 0 0),
 od 124 (.call 57 [(tm 123)]) (.read 0 0)]
def fQ:List ag :=
 [⟨(some 125),(.nilchk (tm 121)),none⟩,
 ⟨(some 126),(.faddr 2 (tm 125)),none⟩,
 ⟨none,(.store 1 (tm 126) (tm 124)),none⟩]
def gF:List SOp :=
 [o1 128 (.bin .eql (tm 36) (iv 4)),
 o1 127 (.mv (tm 128))]
def gE:List SOp :=
 [o1 129 (.mv (tm 0)),
 o1 130 (.nilchk (tm 129)),
 o1 131 (.faddr 0 (tm 130)),
 o1 132 (.load false 1 (tm 131)),
 o1 133 (.mv (tm 6)),
 o1 134 (.call 61 [(tm 132),(tm 133),(iv 2)]),
 o1 9 (.mv (tm 134))]
def gD:List SOp :=
 [o1 135 (.mv (tm 9)),
 o1 136 (.len false (tm 135)),
 o1 137 (.mv (iv 0))]
def gC:List SOp :=
 [o1 138 (.bin .lss (tm 137) (tm 136))]
def gB:List SOp :=
 [o1 139 (.iaddr 1 (tm 135) (tm 137)),
 o1 140 (.load false 1 (tm 139)),
 o1 11 (.mv (tm 140))]
def gA:List SOp :=
 [o1 142 (.mv (tm 0)),
 o1 143 (.nilchk (tm 142)),
 o1 144 (.faddr 0 (tm 143)),
 o1 145 (.load false 1 (tm 144)),
 o1 146 (.nilchk (tm 145)),
 o1 147 (.faddr 1 (tm 146)),
 o1 148 (.load false 1 (tm 147)),
 o1 149 (.mv (tm 11)),
 o1 150 (.mget .int false .nilptr (tm 148) (tm 149)),
 o1 151 (.nilchk (tm 150)),
 o1 152 (.faddr 0 (tm 151)),
 o1 153 (.load false 1 (tm 152)),
 o1 154 (.call 60 [(tm 153)]),
 o1 141 (.mv (tm 154)),
 o1 155 (.extract (tm 141) 0),
 o1 156 (.extract (tm 141) 1),
 o1 12 (.mv (tm 155)),
 o1 13 (.mv (tm 156))]
def gz:List SOp :=
 [o1 157 (.mv (tm 0)),
 o1 158 (.nilchk (tm 157)),
 o1 159 (.faddr 0 (tm 158)),
 o1 160 (.load false 1 (tm 159)),
 o1 161 (.nilchk (tm 160)),
 o1 162 (.faddr 2 (tm 161)),
 o1 163 (.load false 1 (tm 162)),
 o1 164 (.mv (tm 12)),
 o0 (.mdel .str (tm 163) (tm 164))]
def gy:List SOp :=
 [o1 165 (.bin .add (tm 137) (iv 1)),
 o1 137 (.mv (tm 165))]
def gx:List SOp :=
 [o1 166 (.mv (tm 0)),
 o1 167 (.faddr 1 (tm 3)),
 o1 168 (.load false 1 (tm 167)),
 o1 169 (.call 59 [(tm 166),(tm 168),(iv (-1))])]
def gw:List SOp :=
 [o1 170 (.mv (tm 9)),
 o1 171 (.len false (tm 170)),
 o1 172 (.mv (iv 0))]
def gv:List SOp :=
 [o1 173 (.bin .lss (tm 172) (tm 171))]
def gu:List SOp :=
 [o1 174 (.iaddr 1 (tm 170) (tm 172)),
 o1 175 (.load false 1 (tm 174)),
 o1 15 (.mv (tm 175))]
def gr:List SOp :=
 [o1 176 (.mv (tm 0)),
 o1 177 (.nilchk (tm 176)),
 o1 178 (.faddr 0 (tm 177)),
 o1 179 (.load false 1 (tm 178)),
 o1 180 (.nilchk (tm 179)),
 o1 181 (.faddr 1 (tm 180)),
 o1 182 (.load false 1 (tm 181)),
 o1 183 (.mv (tm 15)),
 o1 184 (.mget .int false .nilptr (tm 182) (tm 183)),
 o1 185 (.nilchk (tm 184)),
 o1 186 (.faddr 0 (tm 185)),
 o1 187 (.load false 1 (tm 186)),
 o1 16 (.mv (tm 187))]
def gq:List SOp :=
 [o1 188 (.mv (tm 0)),
 o1 189 (.mv (tm 15)),
 o1 190 (.faddr 2 (tm 3)),
 o1 191 (.load false 1 (tm 190)),
 o1 192 (.mv (tm 16)),
 o1 193 (.mv (tm 16)),
 o1 194 (.len false (tm 193)),
 o1 195 (.faddr 1 (tm 3)),
 o1 196 (.load false 1 (tm 195)),
 o1 197 (.len false (tm 196)),
 o1 198 (.bin .sub (tm 194) (tm 197)),
 o1 199 (.slV 1 (tm 192) none (some (tm 198)) none),
 o1 200 (.call 31 [(tm 191),(tm 199)]),
 o1 201 (.call 58 [(tm 188),(tm 189),(tm 200)])]
def gp:List SOp :=
 [o1 202 (.bin .add (tm 172) (iv 1)),
 o1 172 (.mv (tm 202))]
def gn:List SOp :=
 [o1 203 (.mv (tm 0)),
 o1 204 (.faddr 2 (tm 3)),
 o1 205 (.load false 1 (tm 204)),
 o1 206 (.call 59 [(tm 203),(tm 205),(iv 1)])]
def gm:List (ag×Kd) :=
 [od 207 (.mv (tm 0)) .pure,
 od 208 (.nilchk (tm 207)) (.read 0 0),
 od 209 (.faddr 0 (tm 208)) .pure,
 od 210 (.load false 1 (tm 209)) (.read 0 0),
 od 211 (.nilchk (tm 210)) (.read 0 0),
 od 212 (.faddr 1 (tm 211)) .pure,
 od 213 (.load false 1 (tm 212)) (.read 0 0),
 od 214 (.mv (tm 6)) .pure,
 od 215 (.mget .int false .nilptr (tm 213) (tm 214)) (.read 0 0),
 od 216 (.faddr 3 (tm 3)) .pure,
 od 217 (.load false 1 (tm 216)) (.read 0 0),
 od 218 (.call 57 [(tm 217)]) (.read 0 0)]
def fP:List ag :=
 [⟨(some 219),(.nilchk (tm 215)),none⟩,
 ⟨(some 220),(.faddr 2 (tm 219)),none⟩,
 ⟨none,(.store 1 (tm 220) (tm 218)),none⟩]
def gl:List SOp :=
 [o1 4 (.mv (iv 0))]
def gg:aN:=⟨221,(.seq (.sreg iM [])
 (.seq (.seq (.sreg iL [true,false])
 (.cond (tm 18) (.seq (.sreg iK [])
 .ret)
 .skip))
 (.seq (.sdreg iJ [.pure,(.read 0 0),.pure,(.read 0 0),(.read 0 0)] [true,false,false,false,false,false,false])
 (.seq (.seq (.sreg iI [true,false])
 (.cond (tm 26) (.seq (.sreg iH [true,false])
 .ret)
 .skip))
 (.seq (.sdreg iG [.pure,(.read 0 0),.pure,(.read 0 0),.pure,(.read 0 0)] [true,false,false,false,false,false,false,false])
 (.seq (.seq (.sreg iF [true,false])
 (.block 0 (.seq (.sreg iE [true,false])
 (.cond (tm 37) (.seq (.sreg iD [false,false,false,false,false,false,false,false,false,false])
 (.seq (.dregM gP fR [false,false,false,false,false,false,false,false,false,false,false,false,false,false,false,false,false,false,false])
 (.seq (.sdreg gO [.pure,.pure,(.read 0 0),.pure,(.read 0 0),(.read 0 0),.pure,(.read 0 0),.pure,(.read 0 0)] [false,false,false,false,false,false,false,false,false,false,false])
 (.sreg gN [false,false,false,false]))))
 (.seq (.sreg gM [true,false])
 (.cond (tm 83) (.seq (.sreg gL [false,true,false,false,false,false,false,false])
 (.seq (.sreg gK [false,false,false,false,false,false,false,false])
 (.seq (.sreg gJ [false,false,false,false,false,false,false,false])
 (.sreg gI [false,false,false,false]))))
 (.seq (.sreg gH [true,false])
 (.cond (tm 111) (.dregM gG fQ [false,false,false,false,false,false,false,false,false,false,false,false,false,false])
 (.seq (.sreg gF [true,false])
 (.cond (tm 127) (.seq (.sreg gE [true,false,false,false,false,false,false])
 (.seq (.seq (.sreg gD [])
 (.block 1 (.loop (.seq (.sreg gC [])
 (.seq (.cond (tm 138) .skip
 (.exit 1))
 (.seq (.block 2 (.seq (.sreg gB [true,false,false])
 (.seq (.sreg gA [false,true,false,false,false,false,false,false,false,false,false,false,false,false,false,false,false,false])
 (.sreg gz [false,false,false,false,false,false,false,false]))))
 (.sreg gy [true,false])))))))
 (.seq (.sreg gx [false,false,false,false])
 (.seq (.seq (.sreg gw [])
 (.block 3 (.loop (.seq (.sreg gv [])
 (.seq (.cond (tm 173) .skip
 (.exit 3))
 (.seq (.block 4 (.seq (.sreg gu [true,false,false])
 (.seq (.sreg gr [true,false,false,false,false,false,false,false,false,false,false,false,false])
 (.sdreg gq [.pure,.pure,.pure,(.read 0 0),.pure,.pure,(.read 0 0),.pure,(.read 0 0),(.read 0 0),.pure,(.read 0 0),(.read 0 0)] [false,false,false,false,false,false,false,false,false,false,false,false,false,false]))))
 (.sreg gp [true,false])))))))
 (.seq (.sreg gn [false,false,false,false])
 (.dregM gm fP [false,false,false,false,false,false,false,false,false,false,false,false,false,false]))))))
 .skip))))))))))
 (.seq (.sreg gl [])
 .ret))))))),[(.tmp 4)]⟩
attribute [push_cast] iM iL iK iJ iI iH iG iF iE iD gP fR gO gN gM gL gK gJ gI gH gG fQ gF gE gD gC gB gA gz gy gx gw gv gu gr gq gp gn gm fP gl
theorem tZ:aT Tryz.prog (fun _ _=>1) 39=some gg.raw:=by kernel_rfl
def fO:List SOp :=
 [o1 3 (.box (tm 1)),
 o1 4 (.mv (iv 0))]
def fN:List SOp :=
 [o1 8 (.mv (tm 0)),
 o1 9 (.eqk false .ptr (tm 8) (.av .nilptr))]
def fM:List SOp :=
 [o1 4 (.mv (iv 1))]
def fL:List SOp :=
 [o1 10 (.mv (tm 0)),
 o1 11 (.faddr 1 (tm 3)),
 o1 12 (.load false 1 (tm 11)),
 o1 13 (.call 56 [(tm 10),(tm 12)]),
 o1 5 (.mv (tm 13))]
def fK:List SOp :=
 [o1 14 (.faddr 0 (tm 3)),
 o1 15 (.load false 1 (tm 14))]
def fJ:List SOp :=
 [o1 17 (.bin .eql (tm 15) (iv 1)),
 o1 16 (.mv (tm 17))]
def fI:List SOp :=
 [o1 19 (.faddr 1 (tm 3)),
 o1 20 (.load false 1 (tm 19)),
 o1 21 (.call 20 [(tm 20)]),
 o1 18 (.mv (tm 21)),
 o1 22 (.extract (tm 18) 0),
 o1 23 (.extract (tm 18) 1),
 o1 6 (.mv (tm 22)),
 o1 7 (.mv (tm 23))]
def fH:List SOp :=
 [o1 25 (.mv (tm 7)),
 o1 26 (.bin .neq (tm 25) (iv 0)),
 o1 24 (.mv (tm 26))]
def fG:List SOp :=
 [o1 4 (.mv (iv 34))]
def fF:List SOp :=
 [o1 28 (.mv (tm 5)),
 o1 29 (.bin .gtr (tm 28) (iv 0)),
 o1 27 (.mv (tm 29))]
def fj:List SOp :=
 [o1 4 (.mv (iv 68))]
def fi:List SOp :=
 [o1 31 (.mv (tm 0)),
 o1 32 (.faddr 1 (tm 3)),
 o1 33 (.load false 1 (tm 32)),
 o1 34 (.mv (tm 0)),
 o1 35 (.nilchk (tm 34)),
 o1 36 (.faddr 0 (tm 35)),
 o1 37 (.load false 1 (tm 36)),
 o1 38 (.call 80 [(tm 31),(tm 33),(tm 37)]),
 o1 39 (.un .not (tm 38)),
 o1 40 (.mv (tm 39)),
 .grp none 40 true
 [og 41 40 true (.faddr 1 (tm 3)),
 og 42 40 true (.load false 1 (tm 41)),
 og 43 40 true (.len false (tm 42)),
 og 44 40 true (.bin .eql (tm 43) (iv 0)),
 og 45 40 true (.mv (tm 44)),
 .grp (some (40,true)) 45 false
 [og 46 45 false (.mv (tm 0)),
 og 47 45 false (.faddr 1 (tm 3)),
 og 48 45 false (.load false 1 (tm 47)),
 og 49 45 false (.slV 1 (tm 48) (some (iv 1)) none none),
 og 50 45 false (.call 56 [(tm 46),(tm 49)]),
 og 51 45 false (.bin .eql (tm 50) (iv 0))]
 52 (tm 51)]
 53 (tm 52),
 o1 30 (.mv (tm 53))]
def fh:List SOp :=
 [o1 4 (.mv (iv 32))]
def fg:List SOp :=
 [o1 55 (.mv (tm 0)),
 o1 56 (.nilchk (tm 55)),
 o1 57 (.faddr 1 (tm 56)),
 o1 58 (.load false 1 (tm 57)),
 o1 59 (.mlen (tm 58)),
 o1 60 (.bin .geq (tm 59) (iv 4096)),
 o1 54 (.mv (tm 60))]
def ff:List SOp :=
 [o1 4 (.mv (iv 80))]
def fe:List SOp :=
 [o1 4 (.mv (iv 0))]
def fc:List SOp :=
 [o1 62 (.bin .eql (tm 15) (iv 2)),
 o1 61 (.mv (tm 62))]
def fb:List SOp :=
 [o1 63 (.bin .eql (tm 15) (iv 3)),
 o1 61 (.mv (tm 63))]
def fa:List SOp :=
 [o1 64 (.bin .eql (tm 15) (iv 4)),
 o1 61 (.mv (tm 64))]
def eZ:List SOp :=
 [o1 65 (.mv (tm 5)),
 o1 66 (.bin .eql (tm 65) (iv 0))]
def eY:List SOp :=
 [o1 4 (.mv (iv 32))]
def eX:List SOp :=
 [o1 67 (.faddr 0 (tm 3)),
 o1 68 (.load false 1 (tm 67))]
def eW:List SOp :=
 [o1 70 (.bin .eql (tm 68) (iv 2)),
 o1 69 (.mv (tm 70))]
def eV:List SOp :=
 [o1 71 (.mv (tm 0)),
 o1 72 (.nilchk (tm 71)),
 o1 73 (.faddr 1 (tm 72)),
 o1 74 (.load false 1 (tm 73)),
 o1 75 (.mv (tm 5)),
 o1 76 (.mget .int false .nilptr (tm 74) (tm 75)),
 o1 77 (.nilchk (tm 76)),
 o1 78 (.faddr 3 (tm 77)),
 o1 79 (.load false 1 (tm 78)),
 o1 80 (.bin .gtr (tm 79) (iv 0))]
def eU:List SOp :=
 [o1 4 (.mv (iv 66))]
def eT:List SOp :=
 [o1 4 (.mv (iv 0))]
def eS:List SOp :=
 [o1 82 (.bin .eql (tm 68) (iv 3)),
 o1 81 (.mv (tm 82))]
def eR:List SOp :=
 [o1 4 (.mv (iv 0))]
def eQ:List SOp :=
 [o1 84 (.bin .eql (tm 68) (iv 4)),
 o1 83 (.mv (tm 84))]
def eP:List SOp :=
 [o1 85 (.mv (tm 0)),
 o1 86 (.mv (tm 5)),
 o1 87 (.load true 4 (tm 3)),
 o1 88 (.call 81 [(tm 85),(tm 86),(tm 87)]),
 o1 4 (.mv (tm 88))]
def eO:List SOp :=
 [o1 4 (.mv (iv 1))]
def d8:aN:=⟨89,(.seq (.sreg fO [])
 (.seq (.seq (.sreg fN [true,false])
 (.cond (tm 9) (.seq (.sreg fM [])
 .ret)
 .skip))
 (.seq (.sreg fL [true,false,false,false,false])
 (.seq (.seq (.sreg fK [true,false])
 (.block 0 (.seq (.sreg fJ [true,false])
 (.cond (tm 16) (.seq (.sreg fI [true,false,false,false,false,false,false,false])
 (.seq (.block 1 (.seq (.sreg fH [true,false,false])
 (.cond (tm 24) (.seq (.sreg fG [])
 .ret)
 (.seq (.sreg fF [true,false,false])
 (.cond (tm 27) (.seq (.sreg fj [])
 .ret)
 (.seq (.sdreg fi [.pure,.pure,(.read 0 0),.pure,(.read 0 0),.pure,(.read 0 0),(.read 0 0),.pure,.pure,.pure,(.read 0 0),(.read 0 0),.pure,.pure,.pure,.pure,(.read 0 0),(.read 0 0)] [true,false,false,false,false,false,false,false,false,false,false,false])
 (.cond (tm 30) (.seq (.sreg fh [])
 .ret)
 (.seq (.sreg fg [true,false,false,false,false,false,false])
 (.cond (tm 54) (.seq (.sreg ff [])
 .ret)
 .skip)))))))))
 (.seq (.sreg fe [])
 .ret)))
 (.seq (.seq (.sreg fc [true,false])
 (.cond (tm 61) .skip
 (.seq (.sreg fb [true,false])
 (.cond (tm 61) .skip
 (.sreg fa [true,false])))))
 (.cond (tm 61) (.seq (.sreg eZ [true,false])
 (.cond (tm 66) (.seq (.sreg eY [])
 .ret)
 .skip))
 .skip))))))
 (.seq (.seq (.sreg eX [true,false])
 (.block 2 (.seq (.sreg eW [true,false])
 (.cond (tm 69) (.seq (.seq (.sreg eV [true,false,false,false,false,false,false,false,false,false])
 (.cond (tm 80) (.seq (.sreg eU [])
 .ret)
 .skip))
 (.seq (.sreg eT [])
 .ret))
 (.seq (.sreg eS [true,false])
 (.cond (tm 81) (.seq (.sreg eR [])
 .ret)
 (.seq (.sreg eQ [true,false])
 (.cond (tm 83) (.seq (.sreg eP [true,false,false,false,false])
 .ret)
 .skip))))))))
 (.seq (.sreg eO [])
 .ret)))))),[(.tmp 4)]⟩
attribute [push_cast] fO fN fM fL fK fJ fI fH fG fF fj fi fh fg ff fe fc fb fa eZ eY eX eW eV eU eT eS eR eQ eP eO
theorem po:aT Tryz.prog (fun _ _=>1) 55=some d8.raw:=by kernel_rfl
def fE:List SOp :=
 [o1 4 (.mv (iv 0))]
def fD:List SOp :=
 [o1 7 (.mv (tm 0)),
 o1 8 (.eqk false .ptr (tm 7) (.av .nilptr))]
def fC:List SOp :=
 [o1 4 (.mv (iv 0))]
def fB:List SOp :=
 [o1 10 (.mv (tm 1)),
 o1 11 (.call 60 [(tm 10)]),
 o1 9 (.mv (tm 11)),
 o1 12 (.extract (tm 9) 0),
 o1 13 (.extract (tm 9) 1),
 o1 5 (.mv (tm 12)),
 o1 6 (.mv (tm 13))]
def fA:List SOp :=
 [o1 14 (.mv (tm 6)),
 o1 15 (.bin .neq (tm 14) (iv 0))]
def fz:List SOp :=
 [o1 4 (.mv (iv 0))]
def fy:List SOp :=
 [o1 16 (.mv (tm 0)),
 o1 17 (.nilchk (tm 16)),
 o1 18 (.faddr 2 (tm 17)),
 o1 19 (.load false 1 (tm 18)),
 o1 20 (.mv (tm 5)),
 o1 21 (.mget .str false (.int .i64 0) (tm 19) (tm 20)),
 o1 4 (.mv (tm 21))]
def cA:aN:=⟨22,(.seq (.sreg fE [])
 (.seq (.seq (.sreg fD [true,false])
 (.cond (tm 8) (.seq (.sreg fC [])
 .ret)
 .skip))
 (.seq (.sreg fB [true,true,false,false,false,false,false])
 (.seq (.seq (.sreg fA [true,false])
 (.cond (tm 15) (.seq (.sreg fz [])
 .ret)
 .skip))
 (.seq (.sreg fy [true,false,false,false,false,false,false])
 .ret))))),[(.tmp 4)]⟩
attribute [push_cast] fE fD fC fB fA fz fy
theorem fo:aT Tryz.prog (fun _ _=>1) 56=some cA.raw:=by kernel_rfl
def l7:List SOp :=
 [o1 1 (.box (tm 0)),
 o1 2 (.mv (.av (.bool false)))]
def l6:List SOp :=
 [o1 9 (.faddr 1 (tm 1)),
 o1 10 (.load false 1 (tm 9)),
 o1 11 (.faddr 2 (tm 1)),
 o1 12 (.load false 1 (tm 11)),
 o1 13 (.bslice false 1 2 [(.sl [] 0 (some 0)),(.sl [] 0 (some 0))] [(0,(1,(tm 10))),(1,(1,(tm 12)))]),
 o1 14 (.len false (tm 13)),
 o1 15 (.mv (iv 0))]
def l5:List SOp :=
 [o1 16 (.bin .lss (tm 15) (tm 14))]
def l4:List SOp :=
 [o1 17 (.iaddr 1 (tm 13) (tm 15)),
 o1 18 (.load false 1 (tm 17)),
 o1 4 (.mv (tm 18))]
def l3:List SOp :=
 [o1 19 (.mv (tm 4)),
 o1 20 (.len false (tm 19)),
 o1 21 (.bin .gtr (tm 20) (iv 40))]
def l0:List SOp :=
 [o1 2 (.mv (.av (.bool false)))]
def lZ:List SOp :=
 [o1 22 (.mv (tm 4)),
 o1 23 (.len false (tm 22)),
 o1 24 (.mv (iv 0))]
def lY:List SOp :=
 [o1 25 (.bin .lss (tm 24) (tm 23))]
def lX:List SOp :=
 [o1 26 (.iaddr 1 (tm 22) (tm 24)),
 o1 27 (.load false 1 (tm 26)),
 o1 6 (.mv (tm 27))]
def lW:List SOp :=
 [o1 28 (.mv (tm 6)),
 o1 29 (.len false (tm 28)),
 o1 30 (.mv (iv 0))]
def jG:List SOp :=
 [o1 31 (.bin .lss (tm 30) (tm 29))]
def jF:List SOp :=
 [o1 32 (.iaddr 2 (tm 28) (tm 30)),
 o1 33 (.load true 2 (tm 32)),
 o1 8 (.alloc [(.str []),(.str [])]),
 o0 (.store 2 (tm 8) (tm 33))]
def jE:List SOp :=
 [o1 34 (.mv (tm 6)),
 o1 35 (.len false (tm 34)),
 o1 36 (.bin .gtr (tm 35) (iv 10)),
 o1 37 (.mv (tm 36)),
 .grp none 37 false
 [og 38 37 false (.faddr 1 (tm 8)),
 og 39 37 false (.load false 1 (tm 38)),
 og 40 37 false (.len true (tm 39)),
 og 41 37 false (.bin .gtr (tm 40) (iv 5000))]
 42 (tm 41)]
def jD:List SOp :=
 [o1 2 (.mv (.av (.bool false)))]
def jC:List SOp :=
 [o1 43 (.bin .add (tm 30) (iv 1)),
 o1 30 (.mv (tm 43))]
def jB:List SOp :=
 [o1 44 (.bin .add (tm 24) (iv 1)),
 o1 24 (.mv (tm 44))]
def jA:List SOp :=
 [o1 45 (.bin .add (tm 15) (iv 1)),
 o1 15 (.mv (tm 45))]
def jz:List SOp :=
 [o1 46 (.faddr 3 (tm 1)),
 o1 47 (.load false 1 (tm 46)),
 o1 48 (.call 15 [(tm 47)]),
 o1 2 (.mv (tm 48))]
def iz:aN:=⟨49,(.seq (.sreg l7 [])
 (.seq (.seq (.sreg l6 [true,true,true,false,false,false,false])
 (.block 0 (.loop (.seq (.sreg l5 [])
 (.seq (.cond (tm 16) .skip
 (.exit 0))
 (.seq (.block 1 (.seq (.sreg l4 [true,false,false])
 (.seq (.seq (.sreg l3 [true,false,false])
 (.cond (tm 21) (.seq (.sreg l0 [])
 .ret)
 .skip))
 (.seq (.sreg lZ [])
 (.block 2 (.loop (.seq (.sreg lY [])
 (.seq (.cond (tm 25) .skip
 (.exit 2))
 (.seq (.block 3 (.seq (.sreg lX [true,false,false])
 (.seq (.sreg lW [])
 (.block 4 (.loop (.seq (.sreg jG [])
 (.seq (.cond (tm 31) .skip
 (.exit 4))
 (.seq (.block 5 (.seq (.sreg jF [true,false,false])
 (.seq (.sreg jE [true,false,false,false,false])
 (.cond (tm 42) (.seq (.sreg jD [])
 .ret)
 .skip))))
 (.sreg jC [true,false])))))))))
 (.sreg jB [true,false]))))))))))
 (.sreg jA [true,false])))))))
 (.seq (.sreg jz [true,false,false,false])
 .ret))),[(.tmp 2)]⟩
attribute [push_cast] l7 l6 l5 l4 l3 l0 lZ lY lX lW jG jF jE jD jC jB jA jz
theorem ur:aT Tryz.prog (fun _ _=>1) 6=some iz.raw:=by kernel_rfl
def lV:List SOp :=
 [o1 0 (.mv (.av (.bool false)))]
def lU:List SOp :=
 [o1 8 (.build [(.str []),(.str [])] [(0,(1,(.av (.str [100,99])))),(1,(1,(.av (.str [122]))))]),
 o1 9 (.bslice false 2 1 [(.str []),(.str [])] [(0,(2,(tm 8)))]),
 o1 10 (.bslice false 1 1 [(.sl [] 0 (some 0))] [(0,(1,(tm 9)))]),
 o1 1 (.mv (tm 10))]
def lT:List SOp :=
 [o1 12 (.mv (tm 1)),
 o1 13 (.build [(.int .i64 0),(.sl [] 0 (some 0)),(.sl [] 0 (some 0)),(.sl [] 0 (some 0))] [(0,(1,(iv 2))),(1,(1,(tm 12)))]),
 o1 14 (.call 8 [(tm 13)]),
 o1 11 (.mv (tm 14)),
 o1 15 (.extract (tm 11) 0),
 o1 16 (.extract (tm 11) 1),
 o1 2 (.mv (tm 15)),
 o1 3 (.mv (tm 16))]
def lS:List SOp :=
 [o1 18 (.mv (tm 1)),
 o1 19 (.call 16 [(tm 18)]),
 o1 17 (.mv (tm 19)),
 o1 20 (.extract (tm 17) 0),
 o1 21 (.extract (tm 17) 1),
 o1 4 (.mv (tm 20)),
 o1 5 (.mv (tm 21))]
def lR:List SOp :=
 [o1 23 (.mv (tm 4)),
 o1 24 (.mv (tm 2)),
 o1 25 (.bslice false 1 1 [(.str [])] [(0,(1,(tm 24)))]),
 o1 26 (.call 17 [(tm 23),(tm 25)]),
 o1 22 (.mv (tm 26)),
 o1 27 (.extract (tm 22) 0),
 o1 28 (.extract (tm 22) 1),
 o1 6 (.mv (tm 27)),
 o1 7 (.mv (tm 28))]
def lQ:List SOp :=
 [o1 29 (.mv (tm 3)),
 o1 30 (.bin .eql (tm 29) (iv 0)),
 o1 31 (.mv (tm 30)),
 .grp none 31 true
 [og 32 31 true (.mv (tm 2)),
 og 33 31 true (.bin .eql (tm 32) (.av (.str [48,9,2,1,2,4,4,100,99,61,122])))]
 34 (tm 33),
 o1 35 (.mv (tm 34)),
 .grp none 35 true
 [og 36 35 true (.mv (tm 6)),
 og 37 35 true (.bin .eql (tm 36) (iv 0))]
 38 (tm 37),
 o1 39 (.mv (tm 38)),
 .grp none 39 true
 [og 40 39 true (.mv (tm 7)),
 og 41 39 true (.bin .eql (tm 40) (iv 4))]
 42 (tm 41),
 o1 0 (.mv (tm 42))]
def iy:aN:=⟨43,(.seq (.sreg lV [])
 (.seq (.sreg lU [true,false,false,false])
 (.seq (.sreg lT [true,true,false,false,false,false,false,false])
 (.seq (.sreg lS [false,true,false,false,false,false,false])
 (.seq (.sreg lR [true,true,false,false,false,false,false,false,false])
 (.seq (.sreg lQ [true,false,false,false,false,false,false,false,false])
 .ret)))))),[(.tmp 0)]⟩
attribute [push_cast] lV lU lT lS lR lQ
theorem uq:aT Tryz.prog (fun _ _=>1) 7=some iy.raw:=by kernel_rfl
def eA:List SOp :=
 [o1 3 (.box (tm 0)),
 o1 6 (.mv (.av (.bool false)))]
def ez:List SOp :=
 [o1 15 (.load true 4 (tm 3)),
 o1 16 (.call 8 [(tm 15)]),
 o1 14 (.mv (tm 16)),
 o1 17 (.extract (tm 14) 0),
 o1 18 (.extract (tm 14) 1),
 o1 7 (.mv (tm 17)),
 o1 8 (.mv (tm 18))]
def ew:List SOp :=
 [o1 19 (.call 7 []),
 o1 20 (.un .not (tm 19)),
 o1 21 (.mv (tm 20)),
 .grp none 21 false
 [og 22 21 false (.mv (tm 8)),
 og 23 21 false (.bin .neq (tm 22) (iv 0))]
 24 (tm 23),
 o1 25 (.mv (tm 24)),
 .grp none 25 false
 [og 26 25 false (.load true 4 (tm 3)),
 og 27 25 false (.call 6 [(tm 26)]),
 og 28 25 false (.un .not (tm 27))]
 29 (tm 28)]
def ev:List SOp :=
 [o1 30 (.call 7 []),
 o1 6 (.mv (tm 30))]
def eu:List SOp :=
 [o1 32 (.mv (tm 7)),
 o1 33 (.call 13 [(tm 32)]),
 o1 31 (.mv (tm 33)),
 o1 34 (.extract (tm 31) 0),
 o1 35 (.extract (tm 31) 1),
 o1 9 (.alloc [(.int .i64 0),(.sl [] 0 (some 0)),(.sl [] 0 (some 0)),(.sl [] 0 (some 0))]),
 o0 (.store 4 (tm 9) (tm 34)),
 o1 10 (.mv (tm 35))]
def er:List SOp :=
 [o1 36 (.mv (tm 10)),
 o1 37 (.bin .neq (tm 36) (iv 0)),
 o1 38 (.mv (tm 37)),
 .grp none 38 false
 [og 39 38 false (.load true 4 (tm 9)),
 og 40 38 false (.load true 4 (tm 3)),
 og 41 38 false (.call 12 [(tm 40)]),
 og 42 38 false (.call 10 [(tm 39),(tm 41)]),
 og 43 38 false (.un .not (tm 42))]
 44 (tm 43)]
def eo:List SOp :=
 [o1 6 (.mv (.av (.bool false)))]
def en:List SOp :=
 [o1 45 (.mv (tm 7)),
 o1 46 (.s2bO (tm 45)),
 o1 11 (.mv (tm 46))]
def em:List SOp :=
 [o1 47 (.mv (tm 11)),
 o1 48 (.mv (tm 1)),
 o1 49 (.conv .u64 (tm 48)),
 o1 50 (.mv (tm 11)),
 o1 51 (.len false (tm 50)),
 o1 52 (.conv .u64 (tm 51)),
 o1 53 (.bin .rem (tm 49) (tm 52)),
 o1 54 (.conv .i64 (tm 53)),
 o1 55 (.iaddr 1 (tm 47) (tm 54)),
 o1 56 (.load false 1 (tm 55)),
 o1 57 (.mv (tm 2)),
 o1 58 (.bin .xor (tm 56) (tm 57)),
 o1 59 (.iaddr 1 (tm 47) (tm 54)),
 o0 (.store 1 (tm 59) (tm 58))]
def el:List SOp :=
 [o1 61 (.mv (tm 11)),
 o1 62 (.b2s (tm 61)),
 o1 63 (.call 13 [(tm 62)]),
 o1 60 (.mv (tm 63)),
 o1 64 (.extract (tm 60) 0),
 o1 65 (.extract (tm 60) 1),
 o1 12 (.alloc [(.int .i64 0),(.sl [] 0 (some 0)),(.sl [] 0 (some 0)),(.sl [] 0 (some 0))]),
 o0 (.store 4 (tm 12) (tm 64)),
 o1 13 (.mv (tm 65))]
def dV:List SOp :=
 [o1 66 (.mv (tm 13)),
 o1 67 (.bin .neq (tm 66) (iv 0)),
 o1 68 (.mv (tm 67)),
 .grp none 68 false
 [og 69 68 false (.mv (tm 2)),
 og 70 68 false (.bin .eql (tm 69) (.av (.int .u8 0)))]
 71 (tm 70),
 o1 72 (.mv (tm 71)),
 .grp none 72 false
 [og 73 72 false (.load true 4 (tm 12)),
 og 74 72 false (.load true 4 (tm 9)),
 og 75 72 false (.call 10 [(tm 73),(tm 74)]),
 og 76 72 false (.un .not (tm 75))]
 77 (tm 76),
 o1 6 (.mv (tm 77))]
def aw:aN:=⟨78,(.seq (.sreg eA [])
 (.seq (.sreg ez [true,true,false,false,false,false,false])
 (.seq (.seq (.sreg ew [true,false,false,false,false,false])
 (.cond (tm 29) (.seq (.sreg ev [true,false])
 .ret)
 .skip))
 (.seq (.sreg eu [true,true,false,false,false,false,false])
 (.seq (.seq (.sdreg er [.pure,.pure,.pure,(.read 0 0),(.read 0 0),(.read 0 0)] [true,false,false,false])
 (.cond (tm 44) (.seq (.sreg eo [])
 .ret)
 .skip))
 (.seq (.sreg en [true,false,false])
 (.seq (.sreg em [false,false,false,false,false,false,false,false,false,false,false,false,false])
 (.seq (.sreg el [true,true,false,false,false,false,false,false])
 (.seq (.sreg dV [true,false,false,false,false,false,false])
 .ret))))))))),[(.tmp 6)]⟩
attribute [push_cast] eA ez ew ev eu er eo en em el dV
theorem a7:aT Tryz.prog (fun r i=>if r=7∧i=1 then 2 else 1) 5=some aw.raw:=by kernel_rfl
open Go Go.Sort Go.Proofs
set_option maxHeartbeats 8000000
set_option maxRecDepth 100000
theorem zH (z:Array Value):∀ k,(Builtin.zeroCells z k).size=k * z.size:=by
 intro k
 simp [Builtin.zeroCells]
theorem C7:∃ i0,Tryz.prog.info? 46=some i0∧i0.zero=some (.slice none 0 0)∧i0.size=1∧i0.bytes=24:=by
 have h:(Tryz.prog.info? 46).map (fun i=>(i.zero,i.size,i.bytes))=some (some (.slice none 0 0),1,24):=by kernel_rfl
 cases hi:Tryz.prog.info? 46 with
 | none=>rw [hi] at h;cases h
 | some i0 =>
   rw [hi] at h
   simp only [Option.map_some,Option.some.injEq,Prod.mk.injEq] at h
   exact ⟨i0,rfl,h⟩
theorem C9 {L:List Blk} {K:AV→List Blk→Prop} (h:K (.sl [] 0 (some 0)) L):ad Tryz.prog 73 [.sl [] 0 (some 0),.int .i64 0] L K :=
 gj Tryz.func73 rfl (by kernel_rfl) (fun w0 S0 E w vs hR hv=>by
   simp only [VRL] at hv
   obtain ⟨v,_,rfl,hv,_,_,rfl,h2,rfl⟩:=hv
   have hv':=hv
   simp only [VR] at hv h2
   obtain ⟨p,c,rfl,_,h3,_⟩:=hv
   have hc:c=0:=h3 0 rfl
   subst hc
   subst h2
   exact (Any8.slices_Grow_room Tryz.growD p 0 0 0 w (Nat.le_refl _) (by omega) (by omega) (by omega)).mono fun e w' ⟨he,hw⟩=>⟨_,he,hv',by subst hw;exact PE.refl _⟩) h
theorem Es {n:Nat} (h0:0<n) (hn:n≤4000000) {L:List Blk} {K:AV→List Blk→Prop} (h:K (.lsl L.length 0 0 none 1) (L++[.cells []])):ad Tryz.prog 73 [.sl [] 0 (some 0),.int .i64 (n:Int)] L K:=fun w0 S0 E w vs hR hv=>by
 simp only [VRL,VR] at hv
 obtain ⟨_,_,rfl,⟨p,c,rfl,_,h3,_⟩,_,_,rfl,rfl,rfl⟩:=hv
 have hc:c=0:=h3 0 rfl
 subst hc
 obtain ⟨i0,i1,i2,i3,i4⟩:=C7
 refine .inl ⟨eI Tryz.func73 rfl (by kernel_rfl) _ _,(Any8.slices_Grow_grow Tryz.growD i0 (.slice none 0 0) i1 i2 (by omega) p 0 0 n [] w (Nat.le_refl _) (by omega) (by rw [i4];omega) (by omega) (by simp) (fun _=>rfl) (fun a _ j v hj=>by simp at hj)).mono ?_⟩
 rintro e w' ⟨rfl,rfl⟩
 have r0:Rel w0 S0 E L w.drew:=hR.grown ⟨fun _ _=>rfl,Nat.le_refl _,rfl,rfl,rfl⟩
 let cs:Array Value:=([]:List Value).toArray++Builtin.zeroCells (Value.slice none 0 0).cells (0+n - 0)++Builtin.zeroCells (Value.slice none 0 0).cells (grownCap w (0+n) 0 46 - (0+n))
 have hcs:cs.size=n+(grownCap w (0+n) 0 46 - n):=by
   simp only [cs,Array.size_append,zH]
   have:(Value.slice none 0 0).cells.size=1:=rfl
   rw [this]
   simp
 have r1:=r0.push (.cells cs 46) (.cells []) ⟨w.heap.size,0,cs.size⟩ rfl rfl ⟨⟨w.heap.size,0,cs.size⟩,cs,46,(0,0),by simp,(show (w.heap.push (Obj.cells cs 46))[w.heap.size]?=some (Obj.cells cs 46 (0,0)) by simp),rfl,by simp,(fun j a ha=>by simp at ha),fun o _ _=>by omega⟩
 refine ⟨_,_,_,_,rfl,r1.1,h,?_,r1.2⟩
 simp only [VR]
 exact ⟨⟨w.heap.size,0,cs.size⟩,grownCap w (0+n) 0 46,0,by simp,rfl,fun _=>rfl,Nat.zero_le _,(fun k hk=>by cases hk),by simp only [hcs];omega⟩
abbrev yg (l:List AV):AV:=.sl l l.length none
theorem Eb {ls:List (List AV)} {k:Nat} (h:k<ls.length):(ls.map yg).getD k .undef=yg (ls.getD k []):=by simp [h]
theorem Au {ls:List (List AV)} {k:Nat} (h:k<ls.length):(ls.take (k+1)).flatten=(ls.take k).flatten++ls.getD k []:=by
 rw [List.take_succ_eq_append_getElem h,List.flatten_append];simp [h]
theorem Di (ls:List (List AV)) (k:Nat):(ls.take k).flatten.length≤ls.flatten.length:=by
 have h:ls.flatten=(ls.take k).flatten++(ls.drop k).flatten:=by rw [← List.flatten_append,List.take_append_drop]
 rw [h];simp
theorem B3 {ls:List (List AV)} {cap:Option Nat} (hn:ls.length≤1100000) (ht:ls.flatten.length≤1100000) (hone:∀ l∈ls,l.all AV.one=true) (href:∀ p,AV.refsL p ls.flatten=true) {L:List Blk} {K:AV→List Blk→Prop} (h:K (.sl ls.flatten ls.flatten.length none) L) :
   ad Tryz.prog 49 [.sl (ls.map yg) ls.length cap] L K:=by
 replace h:=hid h
 have htk:=hid (fun k=>@Au ls k)
 have hle:=hid (Di ls)
 have hat:=hid (fun k=>@Eb ls k)
 replace hone:=hid hone
 replace href:=hid href
 refine ae dD (by simp [ba]) ?_
 simp only [ba,an]
 refine wk ?_
 refine ak (fun n T' L'=>∃ k:Nat,n=ls.length - k∧k≤ls.length∧T'=[(11,.int .i64 (k:Int)),(10,.int .i64 ls.length),(9,.sl (ls.map yg) ls.length cap),(3,.int .i64 ((ls.take k).flatten.length:Int)),(2,.sl [] 0 (some 0)),(0,.sl (ls.map yg) ls.length cap)]∧L=L') (CutS (b:=Nat.le_refl _)) ⟨0,rfl,Nat.zero_le _,rfl,rfl⟩ ?_
 rintro _ _ _ ⟨k,rfl,hk,rfl,rfl⟩
 by_cases hlt:k<ls.length
 · have g1:(k:Int)<(ls.length:Int):=by omega
   have g2:IntKind.i64.wrap ((k:Int)+1)=(k:Int)+1:=af (by omega) (by omega)
   have e1:=htk.out k hlt
   have e2:=hat.out k hlt
   have e3:=hle.out (k+1)
   obtain ⟨l,hl⟩:∃ l,ls.getD k []=l:=⟨_,rfl⟩
   rw [hl] at e1 e2
   have e4:(ls.take (k+1)).flatten.length=(ls.take k).flatten.length+l.length:=by rw [e1,List.length_append]
   rw [e4] at e3
   obtain ⟨m,hm⟩:∃ m,(ls.take k).flatten.length=m:=⟨_,rfl⟩
   rw [hm] at e3 e4 ⊢
   replace e1:=hid e1
   replace hm:=hid hm
   replace hl:=hid hl
   have g3:IntKind.i64.wrap ((m:Int)+(l.length:Int))=(m:Int)+(l.length:Int):=af (by omega) (by omega)
   have g4:¬ ((m:Int)+(l.length:Int)<0):=by omega
   refine wk ?_
   exact ap _ _ _ (by omega) (CutL (b:=Nat.le_refl _)) ⟨k+1,rfl,hlt,rfl,rfl⟩
 · have hke:k=ls.length:=by omega
   subst hke
   clear hlt hk
   have g1:¬ (ls.length:Int)<(ls.length:Int):=by omega
   obtain ⟨m,hm⟩:∃ m,ls.flatten.length=m:=⟨_,rfl⟩
   rw [List.take_length,hm]
   rw [hm] at h ht
   rcases Nat.eq_zero_or_pos m with h0|hpos
   · subst h0
     have hnil:=hid (List.length_eq_zero_iff.1 hm)
     have kk1:=@hid _ @C9
     refine wk ?_
     refine cJ (l:=[]) (n:=0) 6 1 rfl (Nat.zero_mul 1).symm ?_
     refine ak (fun n T' L'=>∃ k:Nat,n=ls.length - k∧k≤ls.length∧T'=[(27,.int .i64 (k:Int)),(26,.int .i64 ls.length),(25,.sl (ls.map yg) ls.length cap),(6,.gsl [] 0 L.length 1)]∧L'=L++[.spare 0 1]) (CutS (b:=by simp)) ⟨0,rfl,Nat.zero_le _,rfl,rfl⟩ ?_
     rintro _ _ _ ⟨k,rfl,hk,rfl,rfl⟩
     by_cases hlt:k<ls.length
     · have g1:(k:Int)<(ls.length:Int):=by omega
       have g2:IntKind.i64.wrap ((k:Int)+1)=(k:Int)+1:=af (by omega) (by omega)
       have e2:=hat.out k hlt
       have e3:ls.getD k []=[]:=List.flatten_eq_nil_iff.1 hnil.out _ (by rw [List.getD_eq_getElem?_getD,List.getElem?_eq_getElem hlt];exact List.getElem_mem _)
       rw [e3] at e2
       replace e2:(ls.map yg).getD k .undef=.sl [] 0 none:=e2
       clear e3
       refine wk ?_
       exact ap _ _ _ (by omega) (CutL (b:=by simp)) ⟨k+1,rfl,hlt,rfl,rfl⟩
     · have hke:k=ls.length:=by omega
       subst hke
       have g1:¬ (ls.length:Int)<(ls.length:Int):=by omega
       refine wk ?_
       refine au (aa (by rfl) ?_)
       have:=h.out
       rw [hnil.out] at this
       exact this
   · have kk1:=@hid _ (fun L K=>Es hpos (by omega) (L:=L) (K:=K))
     refine wk ?_
     refine ak (fun n T' L'=>∃ (k i:Nat) (X:List Blk) (c:List AV),n=ls.length - k∧k≤ls.length∧Hid (c=(ls.take k).flatten)∧c.length≤m∧i=L.length+X.length∧T'=[(27,.int .i64 (k:Int)),(26,.int .i64 ls.length),(25,.sl (ls.map yg) ls.length cap),(6,.lsl i 0 c.length none 1)]∧L'=L++(X++[.cells c])) (CutS (b:=by simp)) ⟨0,L.length,[],[],rfl,Nat.zero_le _,hid rfl,Nat.zero_le _,rfl,rfl,rfl⟩ ?_
     rintro _ _ _ ⟨k,i,X,c,rfl,hk,hc,hcm,hi,rfl,rfl⟩
     have hget:(L++(X++[Blk.cells c]))[i]?=some (.cells c):=by subst hi;simp
     replace hi:=hid hi
     by_cases hlt:k<ls.length
     · have g1:(k:Int)<(ls.length:Int):=by omega
       have g2:IntKind.i64.wrap ((k:Int)+1)=(k:Int)+1:=af (by omega) (by omega)
       have e1:=htk.out k hlt
       have e2:=hat.out k hlt
       have e3:=hle.out (k+1)
       obtain ⟨l,hl⟩:∃ l,ls.getD k []=l:=⟨_,rfl⟩
       have hones:l.all AV.one=true:=hone.out l (by rw [← hl];simp [hlt])
       rw [hl] at e1 e2
       rw [← hc.out] at e1
       have e4:c.length+l.length≤m:=by rw [e1,List.length_append,hm] at e3;exact e3
       have e5:(c.length+l.length) * 24≤140737488355328:=by omega
       have e6:c.length+l.length≤140737488355328:=by omega
       replace e1:=hid e1
       replace hl:=hid hl
       clear e3
       have hdead:(L++(X++[Blk.cells c])).set i .dead=L++(X++[.dead]):=by rw [hi.out];simp
       have hlen:(L++(X++[Blk.dead])).length=i+1:=by rw [hi.out];simp;omega
       refine wk ?_
       refine ap _ _ _ ?_ (CutL (b:=by simp)) ⟨k+1,i+1,X++[.dead],c++l,rfl,hlt,hid e1.out.symm,by simpa using e4,by rw [hi.out];simp;omega,rfl,?_⟩
       · omega
       · simp [List.take_of_length_le]
     · have hke:k=ls.length:=by omega
       subst hke
       have g1:¬ (ls.length:Int)<(ls.length:Int):=by omega
       refine wk ?_
       refine DC (i:=i) (l:=c) hget ?_
       rw [show (L++(X++[Blk.cells c])).set i .dead=L++(X++[.dead]) by rw [hi.out];simp]
       have e:=hc.out
       rw [List.take_length] at e
       have hs:(AV.lsl i 0 c.length none 1).snap i c=.sl c c.length none:=by simp [AV.snap,List.take_of_length_le]
       rw [hs,e,hm]
       exact aa (by simp only [AV.refs,href.out]) h.out
theorem Aa {d:List Rdn} {cap cap':Option Nat} (hn:d.length≤1100000) (hr:∀ r∈d,r.length≤1100000) {L:List Blk} {K:AV→List Blk→Prop} (h:K (.sl (d.map aC) d.length none) L) :
   ad Tryz.prog 31 [.sl (d.map aC) d.length cap,.sl [] 0 cap'] L K:=by
 replace h:=hid h
 have hat:=hid (fun k=>@ir d k)
 replace hr:=hid hr
 have kk1:Hid (∀ {L:List Blk} {K:AV→List Blk→Prop},K (.sl (d.map aC) d.length none) L→ad Tryz.prog 49 [.sl [.sl [] 0 cap',.sl (d.map aC) d.length cap] 2 (some 2)] L K):=@hid _ (by
   intro L K q
   refine fu ?_
   simp only [AV.frzL,AV.frz,bm]
   have:=@B3 [[],d.map aC] none (by simp) (by simpa using hn) (fun l hl=>by
     simp at hl
     rcases hl with rfl|rfl
     · rfl
     · rw [List.all_eq_true];intro a ha;obtain ⟨r,_,rfl⟩:=List.mem_map.1 ha;rfl) (fun p=>by simpa using cW p d) L K
   simp only [List.flatten_cons,List.flatten_nil,List.append_nil,List.nil_append,List.map_cons,List.map_nil,List.length_map,List.length_nil,List.length_cons,yg] at this
   exact this q)
 refine ae yF (by simp [uv]) ?_
 simp only [uv,an]
 refine wk ?_
 refine cJ (l:=[]) (n:=0) 5 1 rfl (Nat.zero_mul 1).symm ?_
 refine ak (fun m T' L'=>∃ (k:Nat) (C:List AV) (X:List Blk),m=d.length - k∧k≤d.length∧Hid (C=(d.take k).map aC)∧T'=[(13,.int .i64 (k:Int)),(12,.int .i64 d.length),(11,.sl (d.map aC) d.length none),(5,.gsl C k L.length 1)]∧L'=L++(.spare k 1::X)) (CutS (b:=by simp)) ⟨0,[],[],rfl,Nat.zero_le _,hid rfl,rfl,by simp⟩ ?_
 rintro _ _ _ ⟨k,C,X,rfl,hk,hC,rfl,rfl⟩
 by_cases hlt:k<d.length
 · have g1:(k:Int)<(d.length:Int):=by omega
   have g2:IntKind.i64.wrap ((k:Int)+1)=(k:Int)+1:=af (by omega) (by omega)
   have e2:=hat.out k hlt
   have e3:k<(d.map aC).length:=by simpa using hlt
   obtain ⟨r,hri⟩:∃ r,d.getD k []=r:=⟨_,rfl⟩
   have hrl:=hr.out r (by rw [← hri];simp [hlt])
   have htk:(d.take (k+1)).map aC=C++[.sl (aS r) r.length none]:=by
     rw [hC.out,List.take_succ_eq_append_getElem hlt,List.map_append,show d[k]=r by rw [← hri];simp [hlt]];rfl
   rw [hri] at e2
   have e4:=jL r
   have e5:=cC r
   replace htk:=hid htk
   clear hri hC
   refine wk ?_
   exact ap _ _ _ (by omega) (CutL (b:=by simp)) ⟨k+1,_,_,rfl,hlt,hid htk.out.symm,rfl,rfl⟩
 · have hke:k=d.length:=by omega
   subst hke
   have g1:¬ (d.length:Int)<(d.length:Int):=by omega
   have hC2:=hC.out
   rw [List.take_length] at hC2
   subst hC2
   clear hC
   refine wk ?_
   refine au ?_
   simp only [AV.frz,bm]
   exact aa (by simp only [AV.refs,cW]) h.out
set_option maxHeartbeats 8000000
set_option maxRecDepth 100000
def wj (u:Upd):Prop:=dnB u.dn∧dnB u.to∧u.attrs.length≤1100000∧∀ a∈u.attrs,a.2.length≤1100000
theorem FH {u:Upd} (hu:wj u) {L:List Blk} {K:AV→List Blk→Prop} (h:K (.agg (cF (bz u))) L):ad Tryz.prog 11 [.agg (cF u)] L K:=by
 obtain ⟨k,d,t,l⟩:=u
 obtain ⟨hd,ht,hl,hv⟩:=hu
 simp only [cF,bz] at hd ht hl hv h ⊢
 obtain ⟨t',ht'⟩:∃ t',(if k=4 then t else [])=t':=⟨_,rfl⟩
 obtain ⟨l',hl'⟩:∃ l',(if k=2 then [] else l)=l':=⟨_,rfl⟩
 rw [ht',hl'] at h
 have hdt:dnB t':=by
   rw [← ht']
   split
   · exact ht
   · exact ⟨by simp,by simp⟩
 have hll:l'.length≤1100000:=by
   rw [← hl']
   split
   · simp
   · exact hl
 have hvv:∀ a∈l',a.2.length≤1100000:=by
   rw [← hl']
   split
   · simp
   · exact hv
 replace h:=hid h
 have kk1:Hid (∀ {cap:Option Nat} {L:List Blk} {K:AV→List Blk→Prop},K (dnA d) L→ad Tryz.prog 31 [dnA d,.sl [] 0 cap] L K):=@hid _ (by intro cap L K q;exact Aa hd.1 hd.2 q)
 have kk2:Hid (∀ {cap:Option Nat} {L:List Blk} {K:AV→List Blk→Prop},K (dnA t') L→ad Tryz.prog 31 [dnA t',.sl [] 0 cap] L K):=@hid _ (by intro cap L K q;exact Aa hdt.1 hdt.2 q)
 refine ae um (by simp [iw]) ?_
 simp only [iw,an]
 iterate 3 first
   | refine dR ?_
   | (first|refine db (by kernel_rfl) ?_|refine cg (by kernel_rfl) ?_|refine ch ?_|refine iq ?_|refine dM (fun _=>?_)|refine bj ?_|refine de ?_)
     simp (config:={ maxSteps:=2000000 }) only [Kon,push_cast,reduceIte,Nat.reduceEqDiff,Nat.reduceAdd,Nat.reduceMul,Nat.reduceSub,Nat.reduceLT,Nat.reduceLeDiff,Int.reduceLT,Int.reduceLE,Int.reduceAdd,Int.reduceSub,Int.reduceNeg,Int.reduceToNat,Int.reduceEq,reduceCtorEq, *]
   | (first|refine c7 (by kernel_rfl) ?_|refine dc ?_|refine dd ?_|refine dS (bi ?_))
     simp only [push_cast,reduceIte,Nat.reduceEqDiff,Nat.reduceAdd,Nat.reduceMul,Nat.reduceSub,Nat.reduceLT,Nat.reduceLeDiff,Int.reduceLT,Int.reduceLE,Int.reduceAdd,Int.reduceSub,Int.reduceNeg,Int.reduceToNat,Int.reduceEq,reduceCtorEq, *]
   | exact dN
   | first|apply dO|apply c8|apply dP|apply c9|apply dQ|apply da
   | refine cm ?_
   | first|refine ci rfl ?_|refine cj rfl ?_|refine aZ rfl ?_ ?_|refine cT rfl (fun _=>?_) (fun _=>?_)|refine cS rfl (fun _=>?_) (fun _=>?_)
   | ((first|refine aX (fun _=>?_) (fun _=>?_)|refine bh (fun _=>?_) (fun _=>?_))<;>try simp (config:={ maxSteps:=2000000 }) only [Kon,push_cast,reduceIte,Nat.reduceEqDiff,Nat.reduceAdd,Nat.reduceMul,Nat.reduceSub,Nat.reduceLT,Nat.reduceLeDiff,Int.reduceLT,Int.reduceLE,Int.reduceAdd,Int.reduceSub,Int.reduceNeg,Int.reduceToNat,Int.reduceEq,reduceCtorEq, *])
   | refine And.intro trivial ?_
   | refine And.intro (by omega) ?_
   | refine bD rfl (fun _=>?_) (fun _=>?_)
   | refine And.intro ?_ ?_
 refine wg (fun T2 L2=>∃ tA,tA.frz=dnA t'∧T2=[(2,.ptr (L.length+1) 0),(1,.ptr L.length 0)]∧L2=L++[.cells [.int .i64 k,dnA d,tA,.sl (aB l) l.length none],.cells [.int .i64 0,.sl [] 0 (some 0),.sl [] 0 (some 0),.sl [] 0 (some 0)]]) ?_ ?_
 · by_cases h4:k=4
   · rw [if_pos h4] at ht'
     subst ht'
     clear hl' h kk1 kk2
     refine wk ?_
     exact kj _ _ (CutS (b:=by simp)) ⟨_,by simp only [AV.frz,bm],rfl,rfl⟩
   · rw [if_neg h4] at ht'
     subst ht'
     clear hl' h kk1 kk2
     refine wk ?_
     exact kj _ _ (CutS (b:=by simp)) ⟨.sl [] 0 (some 0),rfl,rfl,rfl⟩
 rintro _ _ ⟨tA,htA,rfl,rfl⟩ -
 refine wg (fun T2 L2=>∃ lA,lA.frz=.sl (aB l') l'.length none∧T2=[(2,.ptr (L.length+1) 0),(1,.ptr L.length 0)]∧L2=L++[.cells [.int .i64 k,dnA d,tA,lA],.cells [.int .i64 0,.sl [] 0 (some 0),.sl [] 0 (some 0),.sl [] 0 (some 0)]]) ?_ ?_
 · by_cases h2:k=2
   · rw [if_pos h2] at hl'
     subst hl'
     clear ht' h kk1 kk2 htA
     refine wk ?_
     exact kj _ _ (CutS (b:=by simp)) ⟨.sl [] 0 (some 0),rfl,rfl,rfl⟩
   · rw [if_neg h2] at hl'
     subst hl'
     clear ht' h kk1 kk2 htA
     refine wk ?_
     exact kj _ _ (CutS (b:=by simp)) ⟨_,by simp only [AV.frz,jN],rfl,rfl⟩
 rintro _ _ ⟨lA,hlA,rfl,rfl⟩ -
 refine EO L.length (c:=[.int .i64 k,dnA d,tA,lA]) (by simp) ?_
 have eL:(L++[Blk.cells [.int .i64 k,dnA d,tA,lA],.cells [.int .i64 0,.sl [] 0 (some 0),.sl [] 0 (some 0),.sl [] 0 (some 0)]]).set L.length (.cells (AV.frzL [.int .i64 k,dnA d,tA,lA]))=L++[.cells [.int .i64 k,dnA d,dnA t',.sl (aB l') l'.length none],.cells [.int .i64 0,.sl [] 0 (some 0),.sl [] 0 (some 0),.sl [] 0 (some 0)]]:=by
   simp only [AV.frzL,htA,hlA,AV.frz,bm]
   simp
 rw [eL]
 clear eL htA hlA ht' hl'
 replace hvv:=hid hvv
 refine wk ?_
 refine ⟨⟨aq (kk2.out ⟨rfl,rfl⟩) rfl,aq (kk1.out ⟨rfl,rfl⟩) rfl⟩,?_⟩
 clear kk1 kk2
 refine wk ?_
 refine t8 (L.length+2) 3 2 (c:=[.int .i64 k,dnA d,dnA t',.sl [] 0 (some 0)]) (l:=[]) (n:=0) (by simp) rfl (Nat.zero_mul 2).symm ?_
 refine ak (fun m T' L'=>∃ (i:Nat) (D:List AV) (X:List Blk),m=l'.length - i∧i≤l'.length∧Hid (D=aB (l'.take i))∧T'=[(26,.int .i64 (i:Int)),(25,.int .i64 l'.length),(24,.sl (aB l') l'.length none),(3,.ptr (L.length+2) 0),(2,.ptr (L.length+1) 0),(1,.ptr L.length 0)]∧L'=L++(.cells [.int .i64 k,dnA d,dnA t',.sl (aB l') l'.length none] :: .cells [.int .i64 0,.sl [] 0 (some 0),.sl [] 0 (some 0),.sl [] 0 (some 0)] :: .cells [.int .i64 k,dnA d,dnA t',.gsl D i (L.length+3) 2] :: .spare i 2::X)) (CutS (b:=by simp)) ⟨0,[],[],rfl,Nat.zero_le _,hid rfl,rfl,by simp⟩ ?_
 rintro _ _ _ ⟨i,D,X,rfl,hi,hD,rfl,rfl⟩
 by_cases hlt:i<l'.length
 · have g3:(i:Int)<(l'.length:Int):=by omega
   have w2:IntKind.i64.wrap ((i:Int)+1)=(i:Int)+1:=af (by omega) (by omega)
   have e3:=im hlt
   have e4:i * 2+2≤(aB l').length:=by rw [gi];omega
   obtain ⟨⟨n,vs⟩,ha⟩:∃ a,l'.getD i ([],[])=a:=⟨_,rfl⟩
   have hvl:vs.length≤1100000:=hvv.out (n,vs) (by rw [← ha];simp [hlt])
   rw [ha] at e3
   simp only [atA] at e3
   have htk:aB (l'.take (i+1))=D++[.str n,.sl (vs.map AV.str) vs.length none]:=by
     rw [hD.out,List.take_succ_eq_append_getElem hlt,show l'[i]=(n,vs) by rw [← ha];simp [hlt],xn]
     rfl
   have e0:=tV vs
   replace htk:=hid htk
   clear ha hD hvv
   refine wk ?_
   exact ap _ _ _ (by omega) (CutL (b:=by simp)) ⟨i+1,_,_,rfl,hlt,hid htk.out.symm,rfl,rfl⟩
 · have hke:i=l'.length:=by omega
   subst hke
   have g3:¬ (l'.length:Int)<(l'.length:Int):=by omega
   have hD2:=hD.out
   rw [List.take_length] at hD2
   have e0:=jN l'
   subst hD2
   clear hD hvv
   refine wk ?_
   refine au ?_
   simp only [AV.frz,AV.frzL,bm,e0]
   exact aa (by simp only [AV.refs,AV.refsL,cW,ft];rfl) h.out
set_option maxHeartbeats 8000000
set_option maxRecDepth 100000
theorem ET {d:List Rdn} {cap:Option Nat} (hn:d.length≤1100000) (hr:∀ r∈d,r.length≤1100000) {L:List Blk} {K:AV→List Blk→Prop} (h:K (dnA d) L) :
   ad Tryz.prog 32 [.sl (d.map aC) d.length cap] L K:=by
 replace h:=hid h
 have hat:=hid (fun k=>@ir d k)
 replace hr:=hid hr
 refine ae vQ (by simp [kb]) ?_
 simp only [kb,an]
 refine wk ?_
 refine cJ (l:=[]) (n:=0) 3 1 rfl (Nat.zero_mul 1).symm ?_
 refine ak (fun m T' L'=>∃ (k:Nat) (C:List AV) (X:List Blk),m=d.length - k∧k≤d.length∧Hid (C=(d.take k).map aC)∧T'=[(8,.int .i64 (k:Int)),(7,.int .i64 d.length),(6,.sl (d.map aC) d.length cap),(3,.gsl C k L.length 1)]∧L'=L++(.spare k 1::X)) (CutS (b:=by simp)) ⟨0,[],[],rfl,Nat.zero_le _,hid rfl,rfl,by simp⟩ ?_
 rintro _ _ _ ⟨k,C,X,rfl,hk,hC,rfl,rfl⟩
 by_cases hlt:k<d.length
 · have g1:(k:Int)<(d.length:Int):=by omega
   have g2:IntKind.i64.wrap ((k:Int)+1)=(k:Int)+1:=af (by omega) (by omega)
   have e2:=hat.out k hlt
   have e3:k<(d.map aC).length:=by simpa using hlt
   obtain ⟨r,hri⟩:∃ r,d.getD k []=r:=⟨_,rfl⟩
   have hrl:=hr.out r (by rw [← hri];simp [hlt])
   have htk:(d.take (k+1)).map aC=C++[.sl (aS r) r.length none]:=by
     rw [hC.out,List.take_succ_eq_append_getElem hlt,List.map_append,show d[k]=r by rw [← hri];simp [hlt]];rfl
   rw [hri] at e2
   have e4:=jL r
   have e5:=cC r
   replace htk:=hid htk
   clear hri hC
   refine wk ?_
   exact ap _ _ _ (by omega) (CutL (b:=by simp)) ⟨k+1,_,_,rfl,hlt,hid htk.out.symm,rfl,rfl⟩
 · have hke:k=d.length:=by omega
   subst hke
   have g1:¬ (d.length:Int)<(d.length:Int):=by omega
   have hC2:=hC.out
   rw [List.take_length] at hC2
   subst hC2
   clear hC
   refine wk ?_
   refine au ?_
   simp only [AV.frz,bm]
   exact aa (by simp only [AV.refs,cW]) h.out
theorem Eg {u:Upd} (hu:wj u) {L:List Blk} {K:AV→List Blk→Prop} (h:K (.agg (cF (bz u))) L):ad Tryz.prog 12 [.agg (cF u)] L K:=by
 obtain ⟨k,d,t,l⟩:=u
 obtain ⟨hd,ht,hl,hv⟩:=hu
 simp only [cF,bz] at hd ht hl hv h ⊢
 have kk1:Hid (∀ {L:List Blk} {K:AV→List Blk→Prop},K (dnA d) L→ad Tryz.prog 32 [dnA d] L K):=@hid _ (by intro L K q;exact ET hd.1 hd.2 q)
 have kk2:Hid (∀ {L:List Blk} {K:AV→List Blk→Prop},K (dnA t) L→ad Tryz.prog 32 [dnA t] L K):=@hid _ (by intro L K q;exact ET ht.1 ht.2 q)
 have kk3:Hid (∀ {L:List Blk} {K:AV→List Blk→Prop},K (.sl (aB l) l.length none) L→ad Tryz.prog 33 [.sl (aB l) l.length none] L K):=@hid _ (by intro L K q;exact D9 hl hv q)
 have e0:=jN l
 have fin:∀ {x y:AV} {X:List Blk},x.frz=dnA (if k=4 then t else [])→y.frz=.sl (aB (if k=2 then [] else l)) (if k=2 then [] else l).length none→Fin L (.agg [.int .i64 k,dnA d,x,y]) (L++X) K:=fun {x y X} hx hy=>by
   refine au ?_
   simp only [AV.frz,AV.frzL,bm,hx,hy]
   exact aa (by simp only [AV.refs,AV.refsL,cW,ft];rfl) h
 replace fin:=@hid _ @fin
 refine ae vO (by simp [j9]) ?_
 simp only [j9,an]
 refine wk ?_
 refine ⟨aq (kk1.out ⟨rfl,rfl⟩) rfl,?_⟩
 by_cases h4:k=4
 · subst h4
   refine wk ?_
   refine fin.out (by simp only [AV.frz,bm];rfl) (by simp only [AV.frz,e0];rfl)
 · by_cases h2:k=2
   · subst h2
     refine wk ?_
     refine fin.out rfl rfl
   · refine wk ?_
     refine fin.out (by rw [if_neg h4];rfl) (by rw [if_neg h2];simp only [AV.frz,e0])
theorem AU {d:List Rdn} {cap cap':Option Nat} (hn:d.length≤1100000) (hr:∀ r∈d,r.length≤1100000) {L:List Blk} {K:AV→List Blk→Prop} (h:K (.bool true) L) :
   ad Tryz.prog 29 [.sl (d.map aC) d.length cap,.sl (d.map aC) d.length cap'] L K:=by
 replace h:=hid h
 have hat:=hid (fun k=>@ir d k)
 replace hr:=hid hr
 refine ae eM (by simp [cI]) ?_
 simp only [cI,an]
 refine wk ?_
 refine ak (fun m T' L'=>∃ k:Nat,m=d.length - k∧k≤d.length∧T'=[(14,.int .i64 (k:Int)),(13,.int .i64 d.length),(0,.sl (d.map aC) d.length cap),(1,.sl (d.map aC) d.length cap')]∧L=L') (CutS (b:=Nat.le_refl _)) ⟨0,rfl,Nat.zero_le _,rfl,rfl⟩ ?_
 rintro _ _ L' ⟨k,rfl,hk,rfl,e⟩
 subst e
 by_cases hlt:k<d.length
 · have g1:(k:Int)<(d.length:Int):=by omega
   have g2:IntKind.i64.wrap ((k:Int)+1)=(k:Int)+1:=af (by omega) (by omega)
   have e2:=hat.out k hlt
   have e3:k<(d.map aC).length:=by simpa using hlt
   obtain ⟨r,hri⟩:∃ r,d.getD k []=r:=⟨_,rfl⟩
   have hrl:=hr.out r (by rw [← hri];simp [hlt])
   rw [hri] at e2
   clear hri
   refine wk ?_
   refine ak (fun m T' L'=>∃ j:Nat,m=r.length - j∧j≤r.length∧T'=[(33,.int .i64 (j:Int)),(32,.int .i64 r.length),(5,.int .i64 (k:Int)),(14,.int .i64 (k:Int)),(13,.int .i64 d.length),(0,.sl (d.map aC) d.length cap),(1,.sl (d.map aC) d.length cap')]∧L=L') (CutS (b:=Nat.le_refl _)) ⟨0,rfl,Nat.zero_le _,rfl,rfl⟩ ?_
   rintro _ _ L' ⟨j,rfl,hj,rfl,e⟩
   subst e
   by_cases hjl:j<r.length
   · have j1:(j:Int)<(r.length:Int):=by omega
     have j2:IntKind.i64.wrap ((j:Int)+1)=(j:Int)+1:=af (by omega) (by omega)
     have e5:=dv hjl
     have e6:j * 2+2≤(aS r).length:=by rw [cC];omega
     obtain ⟨⟨ty,va⟩,ha⟩:∃ a,r.getD j ([],[])=a:=⟨_,rfl⟩
     rw [ha] at e5
     simp only [mf] at e5
     clear ha
     refine wk ?_
     exact ap _ _ _ (by omega) (CutL (b:=by simp)) ⟨j+1,rfl,hjl,rfl,rfl⟩
   · have j1:¬ (j:Int)<(r.length:Int):=by omega
     refine wk ?_
     exact ap _ _ _ (by omega) (CutL (b:=by simp)) ⟨k+1,rfl,hlt,rfl,rfl⟩
 · have g1:¬ (k:Int)<(d.length:Int):=by omega
   refine wk ?_
   exact aj h.out
theorem Ea {u:Upd} (hu:wj u) {L:List Blk} {K:AV→List Blk→Prop} (h:K (.bool true) L):ad Tryz.prog 10 [.agg (cF u),.agg (cF u)] L K:=by
 obtain ⟨k,d,t,l⟩:=u
 obtain ⟨hd,ht,hl,hv⟩:=hu
 simp only [cF] at hd ht hl hv ⊢
 replace h:=hid h
 have kk1:Hid (∀ {L:List Blk} {K:AV→List Blk→Prop},K (.bool true) L→ad Tryz.prog 29 [dnA d,dnA d] L K):=@hid _ (by intro L K q;exact AU hd.1 hd.2 q)
 have kk2:Hid (∀ {L:List Blk} {K:AV→List Blk→Prop},K (.bool true) L→ad Tryz.prog 29 [dnA t,dnA t] L K):=@hid _ (by intro L K q;exact AU ht.1 ht.2 q)
 have kk3:Hid (∀ {L:List Blk} {K:AV→List Blk→Prop},K (.bool true) L→ad Tryz.prog 30 [.sl (aB l) l.length none,.sl (aB l) l.length none] L K):=@hid _ (by intro L K q;exact Fn hl hv q)
 refine ae eJ (by simp [cG]) ?_
 simp only [cG,an]
 refine wk ?_
 exact aa rfl h.out
set_option maxHeartbeats 8000000
set_option maxRecDepth 100000
def smA (n:Nat) (a:Ava):Bool:=decide (n≤10) && decide (a.2.length≤5000)
def smR (r:Rdn):Bool:=r.all (smA r.length)
def smD (d:List Rdn):Bool:=decide (d.length≤40) && d.all smR
def smU (u:Upd):Bool:=smD u.dn && (smD u.to && Ex u.attrs)
def Fw (d:List Rdn):Prop:=(d.length:Int)≤9223372036854775807∧∀ r∈d,(r.length:Int)≤9223372036854775807
theorem Cx {u:Upd} (hd:Fw u.dn) (ht:Fw u.to) (hl:(u.attrs.length:Int)≤9223372036854775807) (hz:∀ a∈u.attrs,(a.2.length:Int)≤9223372036854775807) {L:List Blk} {K:AV→List Blk→Prop} (h:K (.bool (smU u)) L) :
   ad Tryz.prog 6 [.agg (cF u)] L K:=by
 obtain ⟨k,d,t,l⟩:=u
 simp only [cF,smU] at hd ht hl hz h ⊢
 obtain ⟨fw,hfw⟩:∃ b,Ex l=b:=⟨_,rfl⟩
 have kk1:Hid (∀ {L:List Blk} {K:AV→List Blk→Prop},K (.bool fw) L→ad Tryz.prog 15 [.sl (aB l) l.length none] L K):=@hid _ (by intro L K q;exact Ga hl hz (by rw [hfw];exact q))
 rw [hfw] at h
 obtain ⟨ns,hns⟩:∃ ns,ns=[d,t]:=⟨_,rfl⟩
 obtain ⟨R,hR⟩:∃ R,(ns.all smD && fw)=R:=⟨_,rfl⟩
 have hR0:(smD d && (smD t && fw))=R:=by rw [← hR,hns];simp [Bool.and_assoc]
 rw [hR0] at h
 replace h:=hid h
 have hnl:ns.length=2:=by rw [hns];rfl
 have hnb:∀ x∈ns,Fw x:=fun x hx=>by
   rw [hns] at hx
   simp at hx
   rcases hx with rfl|rfl<;>assumption
 have hrow:AV.sl [dnA d,dnA t] 2 (some 2)=.sl (ns.map dnA) 2 (some 2):=by rw [hns];rfl
 replace hnb:=hid hnb
 obtain ⟨U,hU⟩:∃ U,U=[AV.int .i64 k,dnA d,dnA t,.sl (aB l) l.length none]:=⟨_,rfl⟩
 have hU3:U.getD 3 .undef=.sl (aB l) l.length none:=by rw [hU];rfl
 have hUl:U.length=4:=by rw [hU];rfl
 clear hfw hz hR0 hd ht
 replace hrow:=hid hrow
 replace hU:=hid hU
 replace hns:=hid hns
 refine ae ur (by simp [iz]) ?_
 simp only [iz,an]
 refine wk ?_
 rw [hrow.out,← hU.out]
 clear hrow
 refine ak (fun m T' L'=>∃ (i:Nat) (X:List Blk),m=2 - i∧i≤2∧Hid (((ns.drop i).all smD && fw)=R)∧T'=[(15,.int .i64 (i:Int)),(14,.int .i64 2),(13,.sl (ns.map dnA) 2 (some 2)),(1,.ptr L.length 0)]∧L'=L++(.cells U::X)) (CutS (b:=by simp)) ⟨0,[],rfl,by omega,hid (by simpa using hR),rfl,by simp⟩ ?_
 rintro _ _ _ ⟨i,X,rfl,hi,hI,rfl,rfl⟩
 by_cases hlt:i<2
 · have g1:(i:Int)<2:=by omega
   have g2:IntKind.i64.wrap ((i:Int)+1)=(i:Int)+1:=af (by omega) (by omega)
   obtain ⟨x,hx⟩:∃ x,ns.getD i []=x:=⟨_,rfl⟩
   have hil:i<ns.length:=by omega
   have hxb:=hnb.out x (by rw [← hx];simp [hil])
   have e2:(ns.map dnA).getD i .undef=dnA x:=by rw [← hx];simp [hil]
   have e3:i<(ns.map dnA).length:=by simpa using hil
   have hdr:ns.drop i=x::ns.drop (i+1):=by rw [List.drop_eq_getElem_cons hil,← hx];simp [hil]
   have hI2:=hI.out
   rw [hdr,List.all_cons] at hI2
   obtain ⟨S,hS⟩:∃ S,((ns.drop (i+1)).all smD && fw)=S:=⟨_,rfl⟩
   rw [Bool.and_assoc,hS] at hI2
   clear hI hdr hx hR
   by_cases h40:(40:Int)<(x.length:Int)
   · have h':=h.out
     rw [← hI2,smD,decide_eq_false (by omega)] at h'
     replace h':=hid h'
     clear hI2 hS
     refine wk ?_
     exact aa rfl h'.out
   have hI3:(x.all smR && S)=R:=by rw [← hI2,smD,decide_eq_true (by omega),Bool.true_and]
   have hxl:x.length≤40:=by omega
   have hxr:=hid hxb.2
   clear hI2 hxb
   have hat:=hid (fun k=>@ir x k)
   refine wk ?_
   refine ak (fun m T' L'=>∃ (j:Nat) (Y:List Blk),m=x.length - j∧j≤x.length∧X.length≤Y.length∧Hid (((x.drop j).all smR && S)=R)∧T'=[(24,.int .i64 (j:Int)),(23,.int .i64 x.length),(22,dnA x),(15,.int .i64 (i:Int)),(14,.int .i64 2),(13,.sl (ns.map dnA) 2 (some 2)),(1,.ptr L.length 0)]∧L'=L++(.cells U::Y)) (CutS (b:=by simp)) ⟨0,_,rfl,by omega,Nat.le_refl _,hid (by simpa using hI3),rfl,rfl⟩ ?_
   rintro _ _ _ ⟨j,Y,rfl,hj,hXY,hJ,rfl,rfl⟩
   by_cases hjl:j<x.length
   · have j1:(j:Int)<(x.length:Int):=by omega
     have j2:IntKind.i64.wrap ((j:Int)+1)=(j:Int)+1:=af (by omega) (by omega)
     have e4:=hat.out j hjl
     have e5:j<(x.map aC).length:=by simpa using hjl
     obtain ⟨r,hr⟩:∃ r,x.getD j []=r:=⟨_,rfl⟩
     have hrb:=hxr.out r (by rw [← hr];simp [hjl])
     have hdr:x.drop j=r::x.drop (j+1):=by rw [List.drop_eq_getElem_cons hjl,← hr];simp [hjl]
     rw [hr] at e4
     have hJ2:=hJ.out
     rw [hdr,List.all_cons] at hJ2
     obtain ⟨S2,hS2⟩:∃ S2,((x.drop (j+1)).all smR && S)=S2:=⟨_,rfl⟩
     rw [Bool.and_assoc,hS2,smR] at hJ2
     clear hJ hdr hr hI3
     refine wk ?_
     refine ak (fun m T' L'=>∃ (p:Nat) (Z:List Blk),m=r.length - p∧p≤r.length∧Y.length≤Z.length∧Hid (((r.drop p).all (smA r.length) && S2)=R)∧T'=[(30,.int .i64 (p:Int)),(29,.int .i64 r.length),(28,aC r),(6,aC r),(24,.int .i64 (j:Int)),(23,.int .i64 x.length),(22,dnA x),(15,.int .i64 (i:Int)),(14,.int .i64 2),(13,.sl (ns.map dnA) 2 (some 2)),(1,.ptr L.length 0)]∧L'=L++(.cells U::Z)) (CutS (b:=by simp)) ⟨0,_,rfl,by omega,Nat.le_refl _,hid (by simpa using hJ2),rfl,rfl⟩ ?_
     rintro _ _ _ ⟨p,Z,rfl,hp,hYZ,hP,rfl,rfl⟩
     by_cases hpl:p<r.length
     · have p1:(p:Int)<(r.length:Int):=by omega
       have p2:IntKind.i64.wrap ((p:Int)+1)=(p:Int)+1:=af (by omega) (by omega)
       have e6:=dv hpl
       have e7:p * 2+2≤(aS r).length:=by rw [cC];omega
       obtain ⟨⟨ty,va⟩,ha⟩:∃ a,r.getD p ([],[])=a:=⟨_,rfl⟩
       have hdr:r.drop p=(ty,va)::r.drop (p+1):=by rw [List.drop_eq_getElem_cons hpl,← ha];simp [hpl]
       rw [ha] at e6
       simp only [mf] at e6
       have hP2:=hP.out
       rw [hdr,List.all_cons,Bool.and_assoc] at hP2
       obtain ⟨S3,hS3⟩:∃ S3,((r.drop (p+1)).all (smA r.length) && S2)=S3:=⟨_,rfl⟩
       rw [hS3] at hP2
       clear hP hdr ha hJ2 hS hS2
       by_cases h10:(10:Int)<(r.length:Int)
       · have h':=h.out
         rw [← hP2,smA,decide_eq_false (by omega)] at h'
         replace h':=hid h'
         clear hP2 hS3
         refine wk ?_
         exact aa rfl h'.out
       by_cases h50:(5000:Int)<(va.length:Int)
       · have h':=h.out
         rw [← hP2,smA,decide_eq_true (by omega),decide_eq_false (by simp only;omega)] at h'
         replace h':=hid h'
         clear hP2 hS3
         refine wk ?_
         exact aa rfl h'.out
       have hP3:S3=R:=by rw [← hP2,smA,decide_eq_true (by omega),decide_eq_true (by simp only;omega)];rfl
       subst hP3
       replace hS3:=hid hS3
       clear hP2
       refine wk ?_
       exact ap _ _ _ (by omega) (CutL (b:=by simp;omega)) ⟨p+1,_,rfl,hpl,by simp;omega,hS3,rfl,rfl⟩
     · have hpe:p=r.length:=by omega
       subst hpe
       have p1:¬ (r.length:Int)<(r.length:Int):=by omega
       have hP2:=hP.out
       rw [List.drop_length,List.all_nil,Bool.true_and,← hS2] at hP2
       replace hP2:=hid hP2
       clear hP hJ2 hS hS2
       refine wk ?_
       exact ap _ _ _ (by omega) (CutL (b:=by simp;omega)) ⟨j+1,_,rfl,hjl,by omega,hP2,rfl,rfl⟩
   · have hje:j=x.length:=by omega
     subst hje
     have j1:¬ (x.length:Int)<(x.length:Int):=by omega
     have hJ2:=hJ.out
     rw [List.drop_length,List.all_nil,Bool.true_and,← hS] at hJ2
     replace hJ2:=hid hJ2
     clear hJ hS hI3
     refine wk ?_
     exact ap _ _ _ (by omega) (CutL (b:=by simp)) ⟨i+1,_,rfl,hlt,hJ2,rfl,rfl⟩
 · have hie:i=2:=by omega
   subst hie
   have hI2:=hI.out
   rw [List.drop_of_length_le (by omega),List.all_nil,Bool.true_and] at hI2
   subst hI2
   clear hI hR
   refine wk ?_
   exact aa rfl h.out
end Go.Proofs.YtgpnbkdcdmfgcaaGreat.Av
