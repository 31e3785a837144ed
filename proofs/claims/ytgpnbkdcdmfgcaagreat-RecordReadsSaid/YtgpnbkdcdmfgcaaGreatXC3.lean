/- Joined texts of the walk, made small by a program. -/
import Derived.Test.YtgpnbkdcdmfgcaaGreatXP4
import Derived.Test.YtgpnbkdcdmfgcaaGreatRows
import Derived.KernelRfl
import Derived.Test.YtgpnbkdcdmfgcaaGreatXD1
import Derived.Test.YtgpnbkdcdmfgcaaGreatXD2
import Derived.Test.YtgpnbkdcdmfgcaaGreatXP5
import Derived.Test.YtgpnbkdcdmfgcaaGreatXShelfG
import Derived.Shelf.Spec.SlicesGrow
import Derived.Test.YtgpnbkdcdmfgcaaGreatXC2
import Derived.Test.YtgpnbkdcdmfgcaaGreatXA1
set_option linter.unusedSimpArgs false
set_option linter.unusedVariables false
set_option maxRecDepth 100000
namespace Go.Proofs.YtgpnbkdcdmfgcaaGreat.Av
open Go
def qQ:List SOp :=
 [o1 1 (.box (tm 0)),
 o1 2 (.alloc [(.int .i64 0),(.sl [] 0 (some 0)),(.sl [] 0 (some 0)),(.sl [] 0 (some 0))])]
def qP:List SOp :=
 [o1 6 (.faddr 0 (tm 1)),
 o1 7 (.load false 1 (tm 6)),
 o1 8 (.bin .neq (tm 7) (iv 4))]
def qO:List SOp :=
 [o1 9 (.faddr 2 (tm 1)),
 o0 (.store 1 (tm 9) (.av (.sl [] 0 (some 0))))]
def qN:List SOp :=
 [o1 10 (.faddr 0 (tm 1)),
 o1 11 (.load false 1 (tm 10)),
 o1 12 (.bin .eql (tm 11) (iv 2))]
def qM:List SOp :=
 [o1 13 (.faddr 3 (tm 1)),
 o0 (.store 1 (tm 13) (.av (.sl [] 0 (some 0))))]
def qL:List (ah×Kd) :=
 [od 14 (.faddr 0 (tm 1)) .pure,
 od 15 (.load false 1 (tm 14)) (.read 0 1),
 od 16 (.faddr 1 (tm 1)) .pure,
 od 17 (.load false 1 (tm 16)) (.read 0 1),
 od 18 (.call 31 [(tm 17),(.av (.sl [] 0 (some 0)))]) (.read 0 1),
 od 19 (.faddr 2 (tm 1)) .pure,
 od 20 (.load false 1 (tm 19)) (.read 0 1),
 od 21 (.call 31 [(tm 20),(.av (.sl [] 0 (some 0)))]) (.read 0 1),
 od 22 (.build [(.int .i64 0),(.sl [] 0 (some 0)),(.sl [] 0 (some 0)),(.sl [] 0 (some 0))] [(0,(1,(tm 15))),(1,(1,(tm 18))),(2,(1,(tm 21)))]) .pure,
 od 3 (.alloc [(.int .i64 0),(.sl [] 0 (some 0)),(.sl [] 0 (some 0)),(.sl [] 0 (some 0))]) .eff]
def mP:List ah :=
 [⟨none,(.store 4 (tm 3) (tm 22)),none⟩]
def qK:List SOp :=
 [o1 23 (.faddr 3 (tm 1)),
 o1 24 (.load false 1 (tm 23)),
 o1 25 (.len false (tm 24)),
 o1 26 (.mv (iv 0))]
def qJ:List SOp :=
 [o1 27 (.bin .lss (tm 26) (tm 25))]
def qI:List SOp :=
 [o1 28 (.iaddr 2 (tm 24) (tm 26)),
 o1 29 (.load true 2 (tm 28)),
 o1 5 (.alloc [(.str []),(.sl [] 0 (some 0))]),
 o0 (.store 2 (tm 5) (tm 29))]
def qH:List (ah×Kd) :=
 [od 30 (.faddr 3 (tm 3)) .pure,
 od 31 (.load false 1 (tm 30)) (.read 0 1),
 od 32 (.faddr 0 (tm 5)) .pure,
 od 33 (.load false 1 (tm 32)) (.read 0 1),
 od 34 (.faddr 1 (tm 5)) .pure,
 od 35 (.load false 1 (tm 34)) (.read 0 0),
 od 36 (.app 0 1 16 [(.str [])] (.av (.sl [] 0 (some 0))) (tm 35)) .eff,
 od 37 (.build [(.str []),(.sl [] 0 (some 0))] [(0,(1,(tm 33))),(1,(1,(tm 36)))]) .pure,
 od 38 (.bslice false 2 1 [(.str []),(.sl [] 0 (some 0))] [(0,(2,(tm 37)))]) (.read 0 0)]
def mO:List ah :=
 [⟨(some 39),(.app 1 2 40 [(.str []),(.sl [] 0 (some 0))] (tm 31) (tm 38)),none⟩,
 ⟨(some 40),(.faddr 3 (tm 3)),none⟩,
 ⟨none,(.store 1 (tm 40) (tm 39)),none⟩]
def mR:List SOp :=
 [o1 41 (.bin .add (tm 26) (iv 1)),
 o1 26 (.mv (tm 41))]
def mQ:List SOp :=
 [o1 42 (.load true 4 (tm 3)),
 o0 (.store 4 (tm 2) (tm 42))]
def j7:aK:=⟨43,(.seq (.sreg qQ [])
 (.seq (.seq (.sreg qP [true,false,false])
 (.cond (tm 8) (.sreg qO [false])
 .skip))
 (.seq (.seq (.sreg qN [true,false,false])
 (.cond (tm 12) (.sreg qM [false])
 .skip))
 (.seq (.dregM qL mP [true,false,false,false,false,false,false,false,false,false])
 (.seq (.seq (.sreg qK [true,true,true,false])
 (.block 0 (.loop (.seq (.sreg qJ [])
 (.seq (.cond (tm 27) .skip
 (.exit 0))
 (.seq (.block 1 (.seq (.sreg qI [true,false,false])
 (.dregM qH mO [false,false,false,false,false,false,false,false,false,false,false])))
 (.sreg mR [true,false])))))))
 (.seq (.sreg mQ [false])
 .ret)))))),[(.cell true 4 2)]⟩
attribute [push_cast] qQ qP qO qN qM qL mP qK qJ qI qH mO mR mQ
theorem AZ:aQ Tryz.prog (fun r i=>if r=9∧i=6 then 0 else 1) 11=some j7.raw:=by kernel_rfl
def qG:List SOp :=
 [o1 2 (.alloc [(.int .i64 0),(.sl [] 0 (some 0)),(.sl [] 0 (some 0)),(.sl [] 0 (some 0))]),
 o1 3 (.mv (iv 0))]
def qF:List SOp :=
 [o1 11 (.mv (tm 0)),
 o1 12 (.call 34 [(tm 11)]),
 o1 10 (.mv (tm 12)),
 o1 13 (.extract (tm 10) 0),
 o1 14 (.extract (tm 10) 1),
 o1 4 (.alloc [(.int .i64 0),(.str []),(.sl [] 0 (some 0))]),
 o0 (.store 3 (tm 4) (tm 13)),
 o1 5 (.mv (tm 14))]
def qE:List SOp :=
 [o1 15 (.mv (tm 5)),
 o1 16 (.bin .neq (tm 15) (iv 0))]
def qD:List SOp :=
 [o1 17 (.build [(.int .i64 0),(.sl [] 0 (some 0)),(.sl [] 0 (some 0)),(.sl [] 0 (some 0))] []),
 o1 18 (.mv (tm 5)),
 o0 (.store 4 (tm 2) (tm 17)),
 o1 3 (.mv (tm 18))]
def qC:List SOp :=
 [o1 20 (.load true 3 (tm 4)),
 o1 21 (.call 35 [(tm 20)]),
 o1 19 (.mv (tm 21)),
 o1 22 (.extract (tm 19) 0),
 o1 23 (.extract (tm 19) 1),
 o1 6 (.alloc [(.int .i64 0),(.sl [] 0 (some 0)),(.sl [] 0 (some 0)),(.sl [] 0 (some 0))]),
 o0 (.store 4 (tm 6) (tm 22)),
 o1 7 (.mv (tm 23))]
def qB:List SOp :=
 [o1 24 (.mv (tm 7)),
 o1 25 (.un .not (tm 24))]
def qA:List SOp :=
 [o1 26 (.build [(.int .i64 0),(.sl [] 0 (some 0)),(.sl [] 0 (some 0)),(.sl [] 0 (some 0))] []),
 o0 (.store 4 (tm 2) (tm 26)),
 o1 3 (.mv (iv 4))]
def qz:List SOp :=
 [o1 28 (.load true 4 (tm 6)),
 o1 29 (.call 8 [(tm 28)]),
 o1 27 (.mv (tm 29)),
 o1 30 (.extract (tm 27) 0),
 o1 31 (.extract (tm 27) 1),
 o1 8 (.mv (tm 30)),
 o1 9 (.mv (tm 31))]
def qy:List SOp :=
 [o1 32 (.mv (tm 9)),
 o1 33 (.bin .neq (tm 32) (iv 0)),
 o1 34 (.mv (tm 33)),
 .grp none 34 false
 [og 35 34 false (.mv (tm 8)),
 og 36 34 false (.mv (tm 0)),
 og 37 34 false (.bin .neq (tm 35) (tm 36))]
 38 (tm 37)]
def qx:List SOp :=
 [o1 39 (.build [(.int .i64 0),(.sl [] 0 (some 0)),(.sl [] 0 (some 0)),(.sl [] 0 (some 0))] []),
 o0 (.store 4 (tm 2) (tm 39)),
 o1 3 (.mv (iv 4))]
def mN:List SOp :=
 [o1 40 (.load true 4 (tm 6)),
 o1 41 (.call 11 [(tm 40)]),
 o0 (.store 4 (tm 2) (tm 41)),
 o1 3 (.mv (iv 0))]
def bg:aK:=⟨42,(.seq (.sreg qG [])
 (.seq (.sreg qF [true,true,false,false,false,false,false])
 (.seq (.seq (.sreg qE [true,false])
 (.cond (tm 16) (.seq (.sreg qD [true,false,false])
 .ret)
 .skip))
 (.seq (.sreg qC [true,true,false,false,false,false,false])
 (.seq (.seq (.sreg qB [true,false])
 (.cond (tm 25) (.seq (.sreg qA [true,false])
 .ret)
 .skip))
 (.seq (.seq (.sreg qz [true,true,false,false,false,false,false])
 (.seq (.sreg qy [true,false,false,false])
 (.cond (tm 38) (.seq (.sreg qx [true,false])
 .ret)
 .skip)))
 (.seq (.sreg mN [true,false,false])
 .ret))))))),[(.cell true 4 2),(.tmp 3)]⟩
attribute [push_cast] qG qF qE qD qC qB qA qz qy qx mN
theorem c7:aQ Tryz.prog (fun _ _=>1) 13=some bg.raw:=by kernel_rfl
def qw:List SOp :=
 [o1 1 (.box (tm 0)),
 o1 2 (.alloc [(.int .i64 0),(.sl [] 0 (some 0)),(.sl [] 0 (some 0)),(.sl [] 0 (some 0))]),
 o1 3 (.mv (.av (.bool false)))]
def qv:List SOp :=
 [o1 18 (.faddr 2 (tm 1)),
 o1 19 (.load false 1 (tm 18)),
 o1 4 (.mv (tm 19))]
def qu:List SOp :=
 [o1 20 (.mv (tm 4)),
 o1 21 (.len false (tm 20)),
 o1 22 (.bin .lss (tm 21) (iv 2)),
 o1 23 (.mv (tm 22)),
 .grp none 23 false
 [og 24 23 false (.mv (tm 4)),
 og 25 23 false (.len false (tm 24)),
 og 26 23 false (.bin .gtr (tm 25) (iv 4))]
 27 (tm 26)]
def qt:List SOp :=
 [o1 28 (.build [(.int .i64 0),(.sl [] 0 (some 0)),(.sl [] 0 (some 0)),(.sl [] 0 (some 0))] []),
 o0 (.store 4 (tm 2) (tm 28)),
 o1 3 (.mv (.av (.bool false)))]
def qr:List SOp :=
 [o1 30 (.mv (tm 4)),
 o1 31 (.iaddr 3 (tm 30) (iv 0)),
 o1 32 (.faddr 1 (tm 31)),
 o1 33 (.load false 1 (tm 32)),
 o1 34 (.call 51 [(tm 33)]),
 o1 29 (.mv (tm 34)),
 o1 35 (.extract (tm 29) 0),
 o1 36 (.extract (tm 29) 1),
 o1 5 (.mv (tm 35)),
 o1 6 (.mv (tm 36))]
def qq:List SOp :=
 [o1 37 (.mv (tm 6)),
 o1 38 (.un .not (tm 37))]
def qp:List SOp :=
 [o1 39 (.build [(.int .i64 0),(.sl [] 0 (some 0)),(.sl [] 0 (some 0)),(.sl [] 0 (some 0))] []),
 o0 (.store 4 (tm 2) (tm 39)),
 o1 3 (.mv (.av (.bool false)))]
def qo:List SOp :=
 [o1 40 (.mv (tm 5)),
 o1 41 (.build [(.int .i64 0),(.sl [] 0 (some 0)),(.sl [] 0 (some 0)),(.sl [] 0 (some 0))] [(0,(1,(tm 40)))]),
 o1 7 (.alloc [(.int .i64 0),(.sl [] 0 (some 0)),(.sl [] 0 (some 0)),(.sl [] 0 (some 0))]),
 o0 (.store 4 (tm 7) (tm 41))]
def qn:List SOp :=
 [o1 8 (.mv (iv 0)),
 o1 9 (.mv (iv 0))]
def qm:List SOp :=
 [o1 43 (.mv (tm 4)),
 o1 44 (.iaddr 3 (tm 43) (iv 1)),
 o1 45 (.faddr 1 (tm 44)),
 o1 46 (.load false 1 (tm 45)),
 o1 47 (.call 52 [(tm 46)]),
 o1 42 (.mv (tm 47)),
 o1 48 (.extract (tm 42) 0),
 o1 49 (.extract (tm 42) 1),
 o1 50 (.faddr 1 (tm 7)),
 o0 (.store 1 (tm 50) (tm 48)),
 o1 8 (.mv (tm 49))]
def mC:List SOp :=
 [o1 51 (.mv (tm 4)),
 o1 52 (.slV 3 (tm 51) (some (iv 2)) none none),
 o1 10 (.mv (tm 52))]
def mB:List SOp :=
 [o1 53 (.faddr 0 (tm 7)),
 o1 54 (.load false 1 (tm 53)),
 o1 55 (.bin .eql (tm 54) (iv 4)),
 o1 56 (.mv (tm 55)),
 .grp none 56 true
 [og 57 56 true (.mv (tm 10)),
 og 58 56 true (.len false (tm 57)),
 og 59 56 true (.bin .gtr (tm 58) (iv 0))]
 60 (tm 59)]
def mA:List SOp :=
 [o1 62 (.mv (tm 10)),
 o1 63 (.iaddr 3 (tm 62) (iv 0)),
 o1 64 (.faddr 1 (tm 63)),
 o1 65 (.load false 1 (tm 64)),
 o1 66 (.call 52 [(tm 65)]),
 o1 61 (.mv (tm 66)),
 o1 67 (.extract (tm 61) 0),
 o1 68 (.extract (tm 61) 1),
 o1 69 (.faddr 2 (tm 7)),
 o0 (.store 1 (tm 69) (tm 67)),
 o1 9 (.mv (tm 68))]
def mz:List SOp :=
 [o1 70 (.mv (tm 10)),
 o1 71 (.slV 3 (tm 70) (some (iv 1)) none none),
 o1 10 (.mv (tm 71))]
def my:List SOp :=
 [o1 72 (.mv (tm 8)),
 o1 73 (.bin .neq (tm 72) (iv 0)),
 o1 74 (.mv (tm 73)),
 .grp none 74 false
 [og 75 74 false (.mv (tm 9)),
 og 76 74 false (.bin .neq (tm 75) (iv 0))]
 77 (tm 76),
 o1 78 (.mv (tm 77)),
 .grp none 78 false
 [og 79 78 false (.mv (tm 10)),
 og 80 78 false (.len false (tm 79)),
 og 81 78 false (.bin .gtr (tm 80) (iv 1))]
 82 (tm 81)]
def mw:List SOp :=
 [o1 83 (.build [(.int .i64 0),(.sl [] 0 (some 0)),(.sl [] 0 (some 0)),(.sl [] 0 (some 0))] []),
 o0 (.store 4 (tm 2) (tm 83)),
 o1 3 (.mv (.av (.bool false)))]
def mu:List SOp :=
 [o1 84 (.mv (tm 10)),
 o1 85 (.len false (tm 84)),
 o1 86 (.mv (iv 0))]
def mt:List SOp :=
 [o1 87 (.bin .lss (tm 86) (tm 85))]
def ms:List SOp :=
 [o1 88 (.iaddr 3 (tm 84) (tm 86)),
 o1 89 (.load true 3 (tm 88)),
 o1 12 (.alloc [(.int .i64 0),(.str []),(.sl [] 0 (some 0))]),
 o0 (.store 3 (tm 12) (tm 89))]
def mr:List SOp :=
 [o1 90 (.faddr 2 (tm 12)),
 o1 91 (.load false 1 (tm 90)),
 o1 92 (.len false (tm 91)),
 o1 93 (.mv (iv 0))]
def mq:List SOp :=
 [o1 94 (.bin .lss (tm 93) (tm 92))]
def mp:List SOp :=
 [o1 95 (.iaddr 3 (tm 91) (tm 93)),
 o1 96 (.load true 3 (tm 95)),
 o1 14 (.alloc [(.int .i64 0),(.str []),(.sl [] 0 (some 0))]),
 o0 (.store 3 (tm 14) (tm 96))]
def mo:List SOp :=
 [o1 97 (.faddr 2 (tm 14)),
 o1 98 (.load false 1 (tm 97)),
 o1 99 (.len false (tm 98)),
 o1 100 (.bin .neq (tm 99) (iv 2))]
def mn:List SOp :=
 [o1 101 (.build [(.int .i64 0),(.sl [] 0 (some 0)),(.sl [] 0 (some 0)),(.sl [] 0 (some 0))] []),
 o0 (.store 4 (tm 2) (tm 101)),
 o1 3 (.mv (.av (.bool false)))]
def ml:List SOp :=
 [o1 102 (.faddr 2 (tm 14)),
 o1 103 (.load false 1 (tm 102)),
 o1 104 (.iaddr 3 (tm 103) (iv 0)),
 o1 105 (.faddr 1 (tm 104)),
 o1 106 (.load false 1 (tm 105)),
 o1 107 (.build [(.str []),(.sl [] 0 (some 0))] [(0,(1,(tm 106)))]),
 o1 15 (.alloc [(.str []),(.sl [] 0 (some 0))]),
 o0 (.store 2 (tm 15) (tm 107))]
def mj:List SOp :=
 [o1 108 (.faddr 2 (tm 14)),
 o1 109 (.load false 1 (tm 108)),
 o1 110 (.iaddr 3 (tm 109) (iv 1)),
 o1 111 (.faddr 2 (tm 110)),
 o1 112 (.load false 1 (tm 111)),
 o1 113 (.len false (tm 112)),
 o1 114 (.mv (iv 0))]
def mi:List SOp :=
 [o1 115 (.bin .lss (tm 114) (tm 113))]
def mh:List SOp :=
 [o1 116 (.iaddr 3 (tm 112) (tm 114)),
 o1 117 (.load true 3 (tm 116)),
 o1 17 (.alloc [(.int .i64 0),(.str []),(.sl [] 0 (some 0))]),
 o0 (.store 3 (tm 17) (tm 117))]
def mg:List SOp :=
 [o1 118 (.faddr 1 (tm 15)),
 o1 119 (.load false 1 (tm 118)),
 o1 120 (.faddr 1 (tm 17)),
 o1 121 (.load false 1 (tm 120)),
 o1 122 (.bslice false 1 1 [(.str [])] [(0,(1,(tm 121)))]),
 o1 123 (.app 1 1 16 [(.str [])] (tm 119) (tm 122)),
 o1 124 (.faddr 1 (tm 15)),
 o0 (.store 1 (tm 124) (tm 123))]
def mf:List SOp :=
 [o1 125 (.bin .add (tm 114) (iv 1)),
 o1 114 (.mv (tm 125))]
def me:List SOp :=
 [o1 126 (.faddr 3 (tm 7)),
 o1 127 (.load false 1 (tm 126)),
 o1 128 (.load true 2 (tm 15)),
 o1 129 (.bslice false 2 1 [(.str []),(.sl [] 0 (some 0))] [(0,(2,(tm 128)))]),
 o1 130 (.app 1 2 40 [(.str []),(.sl [] 0 (some 0))] (tm 127) (tm 129)),
 o1 131 (.faddr 3 (tm 7)),
 o0 (.store 1 (tm 131) (tm 130))]
def mc:List SOp :=
 [o1 132 (.bin .add (tm 93) (iv 1)),
 o1 93 (.mv (tm 132))]
def mb:List SOp :=
 [o1 133 (.bin .add (tm 86) (iv 1)),
 o1 86 (.mv (tm 133))]
def ma:List SOp :=
 [o1 134 (.load true 4 (tm 7)),
 o0 (.store 4 (tm 2) (tm 134)),
 o1 3 (.mv (.av (.bool true)))]
def bH:aK:=⟨135,(.seq (.sreg qw [])
 (.seq (.sreg qv [true,false,false])
 (.seq (.seq (.sreg qu [true,false,false,false,false])
 (.cond (tm 27) (.seq (.sreg qt [true,false])
 .ret)
 .skip))
 (.seq (.sreg qr [true,true,false,false,false,false,false,false,false,false])
 (.seq (.seq (.sreg qq [true,false])
 (.cond (tm 38) (.seq (.sreg qp [true,false])
 .ret)
 .skip))
 (.seq (.sreg qo [true,false,false])
 (.seq (.sreg qn [])
 (.seq (.sreg qm [true,false,false,false,false,false,false,false,false,false])
 (.seq (.sreg mC [true,false,false])
 (.seq (.seq (.sreg mB [true,false,false,false,false])
 (.cond (tm 60) (.seq (.sreg mA [true,false,false,false,false,false,false,false,false,false])
 (.sreg mz [true,false,false]))
 .skip))
 (.seq (.seq (.sreg my [true,false,false,false,false,false])
 (.cond (tm 82) (.seq (.sreg mw [true,false])
 .ret)
 .skip))
 (.seq (.seq (.sreg mu [])
 (.block 0 (.loop (.seq (.sreg mt [])
 (.seq (.cond (tm 87) .skip
 (.exit 0))
 (.seq (.block 1 (.seq (.sreg ms [true,false,false])
 (.seq (.sreg mr [true,true,true,false])
 (.block 2 (.loop (.seq (.sreg mq [])
 (.seq (.cond (tm 94) .skip
 (.exit 2))
 (.seq (.block 3 (.seq (.sreg mp [true,false,false])
 (.seq (.seq (.sreg mo [true,false,false,false])
 (.cond (tm 100) (.seq (.sreg mn [true,false])
 .ret)
 .skip))
 (.seq (.sreg ml [true,false,false,false,false,false,false])
 (.seq (.seq (.sreg mj [true,true,true,false,false,false,false])
 (.block 4 (.loop (.seq (.sreg mi [])
 (.seq (.cond (tm 115) .skip
 (.exit 4))
 (.seq (.block 5 (.seq (.sreg mh [true,false,false])
 (.sreg mg [false,false,false,false,false,false,false])))
 (.sreg mf [true,false])))))))
 (.sreg me [false,false,false,false,false,false]))))))
 (.sreg mc [true,false])))))))))
 (.sreg mb [true,false])))))))
 (.seq (.sreg ma [true,false])
 .ret))))))))))))),[(.cell true 4 2),(.tmp 3)]⟩
attribute [push_cast] qw qv qu qt qr qq qp qo qn qm mC mB mA mz my mw mu mt ms mr mq mp mo mn ml mj mi mh mg mf me mc mb ma
theorem dK:aQ Tryz.prog (fun _ _=>1) 35=some bH.raw:=by kernel_rfl
def jP:List SOp :=
 [o1 4 (.mv (iv 0)),
 o1 5 (.mv (iv 0))]
def jO:List SOp :=
 [o1 10 (.mv (tm 0)),
 o1 11 (.eqk false .ptr (tm 10) (.av .nilptr))]
def jN:List SOp :=
 [o1 4 (.mv (iv 0)),
 o1 5 (.mv (iv 1))]
def jM:List SOp :=
 [o1 12 (.mv (tm 1)),
 o1 13 (.len false (tm 12)),
 o1 14 (.mv (iv 0))]
def jL:List SOp :=
 [o1 15 (.bin .lss (tm 14) (tm 13))]
def jK:List SOp :=
 [o1 16 (.mv (tm 14)),
 o1 17 (.iaddr 1 (tm 12) (tm 14)),
 o1 18 (.load false 1 (tm 17)),
 o1 6 (.mv (tm 16)),
 o1 7 (.mv (tm 18))]
def jJ:List SOp :=
 [o1 20 (.mv (tm 7)),
 o1 21 (.call 13 [(tm 20)]),
 o1 19 (.mv (tm 21)),
 o1 22 (.extract (tm 19) 0),
 o1 23 (.extract (tm 19) 1),
 o1 8 (.alloc [(.int .i64 0),(.sl [] 0 (some 0)),(.sl [] 0 (some 0)),(.sl [] 0 (some 0))]),
 o0 (.store 4 (tm 8) (tm 22)),
 o1 9 (.mv (tm 23))]
def jI:List SOp :=
 [o1 24 (.mv (tm 9)),
 o1 25 (.bin .neq (tm 24) (iv 0))]
def jH:List SOp :=
 [o1 26 (.mv (tm 6)),
 o1 27 (.mv (tm 9)),
 o1 4 (.mv (tm 26)),
 o1 5 (.mv (tm 27))]
def jG:List SOp :=
 [o1 28 (.mv (tm 0)),
 o1 29 (.load true 4 (tm 8)),
 o1 30 (.call 39 [(tm 28),(tm 29)]),
 o1 31 (.bin .neq (tm 30) (iv 0))]
def iB:List SOp :=
 [o1 32 (.mv (tm 6)),
 o1 4 (.mv (tm 32)),
 o1 5 (.mv (iv 4))]
def iA:List SOp :=
 [o1 33 (.bin .add (tm 14) (iv 1)),
 o1 14 (.mv (tm 33))]
def iz:List SOp :=
 [o1 34 (.mv (tm 1)),
 o1 35 (.len false (tm 34)),
 o1 4 (.mv (tm 35)),
 o1 5 (.mv (iv 0))]
def gp:aK:=⟨36,(.seq (.sreg jP [])
 (.seq (.seq (.sreg jO [true,false])
 (.cond (tm 11) (.seq (.sreg jN [])
 .ret)
 .skip))
 (.seq (.seq (.sreg jM [])
 (.block 0 (.loop (.seq (.sreg jL [])
 (.seq (.cond (tm 15) .skip
 (.exit 0))
 (.seq (.block 1 (.seq (.sreg jK [true,true,false,false,false])
 (.seq (.sreg jJ [true,true,false,false,false,false,false])
 (.seq (.seq (.sreg jI [true,false])
 (.cond (tm 25) (.seq (.sreg jH [true,true,false,false])
 .ret)
 .skip))
 (.seq (.sreg jG [true,false,false,false])
 (.cond (tm 31) (.seq (.sreg iB [true,true,false])
 .ret)
 .skip))))))
 (.sreg iA [true,false])))))))
 (.seq (.sreg iz [true,true,false,false])
 .ret)))),[(.tmp 4),(.tmp 5)]⟩
attribute [push_cast] jP jO jN jM jL jK jJ jI jH jG iB iA iz
theorem ym:aQ Tryz.prog (fun _ _=>1) 17=some gp.raw:=by kernel_rfl
def BW:List SOp :=
 [o1 4 (.mv (.av (.sl [] 0 (some 0))))]
def BV:List SOp :=
 [o1 5 (.mv (.av (.sl [] 0 (some 0))))]
def BU:List SOp :=
 [o1 8 (.mv (tm 1)),
 o1 9 (.mv (tm 0)),
 o1 10 (.bslice false 1 2 [(.sl [] 0 (some 0)),(.sl [] 0 (some 0))] [(0,(1,(tm 8))),(1,(1,(tm 9)))]),
 o1 11 (.call 49 [(tm 10)]),
 o1 12 (.len false (tm 11)),
 o1 13 (.mv (iv 0))]
def BT:List SOp :=
 [o1 14 (.bin .lss (tm 13) (tm 12))]
def BS:List SOp :=
 [o1 15 (.iaddr 1 (tm 11) (tm 13)),
 o1 16 (.load false 1 (tm 15)),
 o1 7 (.mv (tm 16))]
def BR:List SOp :=
 [o1 17 (.mv (tm 5)),
 o1 18 (.mv (tm 7)),
 o1 19 (.app 0 2 32 [(.str []),(.str [])] (.av (.sl [] 0 (some 0))) (tm 18)),
 o1 20 (.bslice false 1 1 [(.sl [] 0 (some 0))] [(0,(1,(tm 19)))]),
 o1 21 (.app 1 1 24 [(.sl [] 0 (some 0))] (tm 17) (tm 20)),
 o1 5 (.mv (tm 21))]
def BQ:List SOp :=
 [o1 22 (.bin .add (tm 13) (iv 1)),
 o1 13 (.mv (tm 22))]
def BP:List SOp :=
 [o1 23 (.mv (tm 5)),
 o1 4 (.mv (tm 23))]
def A4:aK:=⟨24,(.seq (.sreg BW [])
 (.seq (.sreg BV [])
 (.seq (.seq (.sreg BU [true,true,true,false,false,false])
 (.block 0 (.loop (.seq (.sreg BT [])
 (.seq (.cond (tm 14) .skip
 (.exit 0))
 (.seq (.block 1 (.seq (.sreg BS [true,false,false])
 (.sreg BR [true,false,false,false,false,false])))
 (.sreg BQ [true,false])))))))
 (.seq (.sreg BP [true,false])
 .ret)))),[(.tmp 4)]⟩
attribute [push_cast] BW BV BU BT BS BR BQ BP
theorem EZ:aQ Tryz.prog (fun r i=>if r=5∧i=2 then 0 else 1) 31=some A4.raw:=by kernel_rfl
def cO:List SOp :=
 [o1 2 (.mv (.av (.sl [] 0 (some 0))))]
def cN:List SOp :=
 [o1 3 (.mv (iv 0))]
def cM:List SOp :=
 [o1 9 (.mv (tm 0)),
 o1 10 (.len false (tm 9)),
 o1 11 (.mv (iv 0))]
def cL:List SOp :=
 [o1 12 (.bin .lss (tm 11) (tm 10))]
def cK:List SOp :=
 [o1 13 (.iaddr 1 (tm 9) (tm 11)),
 o1 14 (.load false 1 (tm 13)),
 o1 5 (.mv (tm 14))]
def cJ:List SOp :=
 [o1 15 (.mv (tm 3)),
 o1 16 (.mv (tm 5)),
 o1 17 (.len false (tm 16)),
 o1 18 (.bin .add (tm 15) (tm 17)),
 o1 3 (.mv (tm 18))]
def cI:List SOp :=
 [o1 19 (.mv (tm 3)),
 o1 20 (.bin .lss (tm 19) (iv 0))]
def cH:List SOp :=
 [o1 21 (.mkif 9 (.av (.str [108,101,110,32,111,117,116,32,111,102,32,114,97,110,103,101]))),
 .op ⟨none,.bad,none⟩]
def cG:List SOp :=
 [o1 22 (.bin .add (tm 11) (iv 1)),
 o1 11 (.mv (tm 22))]
def cF:List SOp :=
 [o1 23 (.mv (tm 3)),
 o1 24 (.call 73 [(.av (.sl [] 0 (some 0))),(tm 23)]),
 o1 6 (.mv (tm 24))]
def cw:List SOp :=
 [o1 25 (.mv (tm 0)),
 o1 26 (.len false (tm 25)),
 o1 27 (.mv (iv 0))]
def cv:List SOp :=
 [o1 28 (.bin .lss (tm 27) (tm 26))]
def cu:List SOp :=
 [o1 29 (.iaddr 1 (tm 25) (tm 27)),
 o1 30 (.load false 1 (tm 29)),
 o1 8 (.mv (tm 30))]
def cr:List SOp :=
 [o1 31 (.mv (tm 6)),
 o1 32 (.mv (tm 8)),
 o1 33 (.app 1 1 24 [(.sl [] 0 (some 0))] (tm 31) (tm 32)),
 o1 6 (.mv (tm 33))]
def cq:List SOp :=
 [o1 34 (.bin .add (tm 27) (iv 1)),
 o1 27 (.mv (tm 34))]
def co:List SOp :=
 [o1 35 (.mv (tm 6)),
 o1 2 (.mv (tm 35))]
def bB:aK:=⟨36,(.seq (.sreg cO [])
 (.seq (.sreg cN [])
 (.seq (.seq (.sreg cM [])
 (.block 0 (.loop (.seq (.sreg cL [])
 (.seq (.cond (tm 12) .skip
 (.exit 0))
 (.seq (.block 1 (.seq (.sreg cK [true,false,false])
 (.seq (.sreg cJ [true,false,false,false,false])
 (.seq (.sreg cI [true,false])
 (.cond (tm 20) (.sreg cH [false])
 .skip)))))
 (.sreg cG [true,false])))))))
 (.seq (.sreg cF [true,false,false])
 (.seq (.seq (.sreg cw [])
 (.block 2 (.loop (.seq (.sreg cv [])
 (.seq (.cond (tm 28) .skip
 (.exit 2))
 (.seq (.block 3 (.seq (.sreg cu [true,false,false])
 (.sreg cr [true,false,false,false])))
 (.sreg cq [true,false])))))))
 (.seq (.sreg co [true,false])
 .ret)))))),[(.tmp 2)]⟩
attribute [push_cast] cO cN cM cL cK cJ cI cH cG cF cw cv cu cr cq co
theorem eV:aQ Tryz.prog (fun _ _=>1) 49=some bB.raw:=by kernel_rfl
def yO:List SOp :=
 [o1 2 (.mv (.av .nilptr)),
 o1 3 (.mv (iv 0))]
def yN:List SOp :=
 [o1 7 (.mv (tm 0)),
 o1 8 (.call 20 [(tm 7)]),
 o1 6 (.mv (tm 8)),
 o1 9 (.extract (tm 6) 0),
 o1 10 (.extract (tm 6) 1),
 o1 4 (.mv (tm 9)),
 o1 5 (.mv (tm 10))]
def yM:List SOp :=
 [o1 11 (.mv (tm 5)),
 o1 12 (.bin .neq (tm 11) (iv 0))]
def yL:List SOp :=
 [o1 13 (.mv (tm 5)),
 o1 2 (.mv (.av .nilptr)),
 o1 3 (.mv (tm 13))]
def yK:List SOp :=
 [o1 14 (.mv (tm 0)),
 o1 15 (.len false (tm 14)),
 o1 16 (.bin .eql (tm 15) (iv 0))]
def yJ:List SOp :=
 [o1 2 (.mv (.av .nilptr)),
 o1 3 (.mv (iv 2))]
def yI:List SOp :=
 [o1 17 (.mv (tm 0)),
 o1 18 (.call 31 [(tm 17),(.av (.sl [] 0 (some 0)))]),
 .op ⟨(some 19),.mkmap,none⟩,
 .op ⟨(some 20),.mkmap,none⟩,
 o1 21 (.build [(.sl [] 0 (some 0)),.nilmap,.nilmap,(.int .i64 0)] [(0,(1,(tm 18))),(1,(1,(tm 19))),(2,(1,(tm 20))),(3,(1,(iv 0)))]),
 o1 22 (.box (tm 21)),
 o1 23 (.build [.nilptr] [(0,(1,(tm 22)))]),
 o1 24 (.box (tm 23)),
 o1 2 (.mv (tm 24)),
 o1 3 (.mv (iv 0))]
def yh:aK:=⟨25,(.seq (.sreg yO [])
 (.seq (.seq (.sreg yN [true,false,false,false,false,false,false])
 (.seq (.sreg yM [true,false])
 (.cond (tm 12) (.seq (.sreg yL [true,true,false])
 .ret)
 .skip)))
 (.seq (.seq (.sreg yK [true,false,false])
 (.cond (tm 16) (.seq (.sreg yJ [])
 .ret)
 .skip))
 (.seq (.sreg yI [true,true,false,false,false,false,false,false,false,false])
 .ret)))),[(.tmp 2),(.tmp 3)]⟩
attribute [push_cast] yO yN yM yL yK yJ yI
theorem DH:aQ Tryz.prog (fun _ _=>1) 16=some yh.raw:=by kernel_rfl
def ku:List SOp :=
 [o1 3 (.box (tm 1)),
 o1 4 (.mv (iv 0))]
def kr:List SOp :=
 [o1 17 (.mv (tm 0)),
 o1 18 (.eqk false .ptr (tm 17) (.av .nilptr))]
def kq:List SOp :=
 [o1 4 (.mv (iv 1))]
def ko:List SOp :=
 [o1 19 (.mv (tm 0)),
 o1 20 (.nilchk (tm 19)),
 o1 21 (.faddr 0 (tm 20)),
 o1 22 (.load false 1 (tm 21)),
 o1 23 (.load true 4 (tm 3)),
 o1 24 (.call 55 [(tm 22),(tm 23)]),
 o1 5 (.mv (tm 24))]
def kn:List SOp :=
 [o1 25 (.mv (tm 5)),
 o1 26 (.bin .neq (tm 25) (iv 0))]
def kl:List SOp :=
 [o1 27 (.mv (tm 5)),
 o1 4 (.mv (tm 27))]
def kk:List SOp :=
 [o1 28 (.mv (tm 0)),
 o1 29 (.nilchk (tm 28)),
 o1 30 (.faddr 0 (tm 29)),
 o1 31 (.load false 1 (tm 30)),
 o1 32 (.faddr 1 (tm 3)),
 o1 33 (.load false 1 (tm 32)),
 o1 34 (.call 56 [(tm 31),(tm 33)]),
 o1 6 (.mv (tm 34))]
def kj:List SOp :=
 [o1 35 (.faddr 0 (tm 3)),
 o1 36 (.load false 1 (tm 35))]
def ki:List SOp :=
 [o1 38 (.bin .eql (tm 36) (iv 1)),
 o1 37 (.mv (tm 38))]
def kg:List SOp :=
 [o1 39 (.mv (tm 0)),
 o1 40 (.nilchk (tm 39)),
 o1 41 (.faddr 0 (tm 40)),
 o1 42 (.load false 1 (tm 41)),
 o1 43 (.nilchk (tm 42)),
 o1 44 (.faddr 3 (tm 43)),
 o1 45 (.load false 1 (tm 44)),
 o1 46 (.bin .add (tm 45) (iv 1)),
 o1 47 (.nilchk (tm 42)),
 o1 48 (.faddr 3 (tm 47)),
 o0 (.store 1 (tm 48) (tm 46))]
def jl:List (ah×Kd) :=
 [od 49 (.mv (tm 0)) .pure,
 od 50 (.nilchk (tm 49)) (.read 0 1),
 od 51 (.faddr 0 (tm 50)) .pure,
 od 52 (.load false 1 (tm 51)) (.read 0 1),
 od 53 (.nilchk (tm 52)) (.read 0 1),
 od 54 (.faddr 1 (tm 53)) .pure,
 od 55 (.load false 1 (tm 54)) (.read 0 1),
 od 56 (.mv (tm 0)) .pure,
 od 57 (.nilchk (tm 56)) (.read 0 1),
 od 58 (.faddr 0 (tm 57)) .pure,
 od 59 (.load false 1 (tm 58)) (.read 0 1),
 od 60 (.nilchk (tm 59)) (.read 0 1),
 od 61 (.faddr 3 (tm 60)) .pure,
 od 62 (.load false 1 (tm 61)) (.read 0 1),
 od 63 (.faddr 3 (tm 3)) .pure,
 od 64 (.load false 1 (tm 63)) (.read 0 0),
 od 65 (.call 57 [(tm 64)]) (.read 0 0),
 od 66 (.build [(.sl [] 0 (some 0)),(.sl [] 0 (some 0)),(.sl [] 0 (some 0)),(.int .i64 0)] [(2,(1,(tm 65)))]) .pure,
 od 67 (.box (tm 66)) .eff]
def ir:List ah :=
 [⟨none,(.mset .int (tm 55) (tm 62) (tm 67)),none⟩]
def jk:List SOp :=
 [o1 68 (.mv (tm 0)),
 o1 69 (.mv (tm 0)),
 o1 70 (.nilchk (tm 69)),
 o1 71 (.faddr 0 (tm 70)),
 o1 72 (.load false 1 (tm 71)),
 o1 73 (.nilchk (tm 72)),
 o1 74 (.faddr 3 (tm 73)),
 o1 75 (.load false 1 (tm 74)),
 o1 76 (.faddr 1 (tm 3)),
 o1 77 (.load false 1 (tm 76)),
 o1 78 (.call 58 [(tm 68),(tm 75),(tm 77)])]
def jj:List SOp :=
 [o1 79 (.mv (tm 0)),
 o1 80 (.faddr 1 (tm 3)),
 o1 81 (.load false 1 (tm 80)),
 o1 82 (.call 59 [(tm 79),(tm 81),(iv 1)])]
def ji:List SOp :=
 [o1 84 (.bin .eql (tm 36) (iv 2)),
 o1 83 (.mv (tm 84))]
def jh:List SOp :=
 [o1 86 (.faddr 1 (tm 3)),
 o1 87 (.load false 1 (tm 86)),
 o1 88 (.call 60 [(tm 87)]),
 o1 85 (.mv (tm 88)),
 o1 89 (.extract (tm 85) 0),
 o1 90 (.extract (tm 85) 1),
 o1 7 (.mv (tm 89)),
 o1 8 (.mv (tm 90))]
def jg:List SOp :=
 [o1 91 (.mv (tm 0)),
 o1 92 (.nilchk (tm 91)),
 o1 93 (.faddr 0 (tm 92)),
 o1 94 (.load false 1 (tm 93)),
 o1 95 (.nilchk (tm 94)),
 o1 96 (.faddr 2 (tm 95)),
 o1 97 (.load false 1 (tm 96)),
 o1 98 (.mv (tm 7)),
 o0 (.mdel .str (tm 97) (tm 98))]
def jf:List SOp :=
 [o1 99 (.mv (tm 0)),
 o1 100 (.nilchk (tm 99)),
 o1 101 (.faddr 0 (tm 100)),
 o1 102 (.load false 1 (tm 101)),
 o1 103 (.nilchk (tm 102)),
 o1 104 (.faddr 1 (tm 103)),
 o1 105 (.load false 1 (tm 104)),
 o1 106 (.mv (tm 6)),
 o0 (.mdel .int (tm 105) (tm 106))]
def je:List SOp :=
 [o1 107 (.mv (tm 0)),
 o1 108 (.faddr 1 (tm 3)),
 o1 109 (.load false 1 (tm 108)),
 o1 110 (.call 59 [(tm 107),(tm 109),(iv (-1))])]
def jd:List SOp :=
 [o1 112 (.bin .eql (tm 36) (iv 3)),
 o1 111 (.mv (tm 112))]
def jc:List (ah×Kd) :=
 [od 113 (.mv (tm 0)) .pure,
 od 114 (.nilchk (tm 113)) (.read 0 0),
 od 115 (.faddr 0 (tm 114)) .pure,
 od 116 (.load false 1 (tm 115)) (.read 0 0),
 od 117 (.nilchk (tm 116)) (.read 0 0),
 od 118 (.faddr 1 (tm 117)) .pure,
 od 119 (.load false 1 (tm 118)) (.read 0 0),
 od 120 (.mv (tm 6)) .pure,
 od 121 (.mget .int false .nilptr (tm 119) (tm 120)) (.read 0 0),
 od 122 (.faddr 3 (tm 3)) .pure,
 od 123 (.load false 1 (tm 122)) (.read 0 0),
 od 124 (.call 57 [(tm 123)]) (.read 0 0)]
def iq:List ah :=
 [⟨(some 125),(.nilchk (tm 121)),none⟩,
 ⟨(some 126),(.faddr 2 (tm 125)),none⟩,
 ⟨none,(.store 1 (tm 126) (tm 124)),none⟩]
def jb:List SOp :=
 [o1 128 (.bin .eql (tm 36) (iv 4)),
 o1 127 (.mv (tm 128))]
def ja:List SOp :=
 [o1 129 (.mv (tm 0)),
 o1 130 (.nilchk (tm 129)),
 o1 131 (.faddr 0 (tm 130)),
 o1 132 (.load false 1 (tm 131)),
 o1 133 (.mv (tm 6)),
 o1 134 (.call 61 [(tm 132),(tm 133),(iv 2)]),
 o1 9 (.mv (tm 134))]
def i9:List SOp :=
 [o1 135 (.mv (tm 9)),
 o1 136 (.len false (tm 135)),
 o1 137 (.mv (iv 0))]
def i8:List SOp :=
 [o1 138 (.bin .lss (tm 137) (tm 136))]
def i7:List SOp :=
 [o1 139 (.iaddr 1 (tm 135) (tm 137)),
 o1 140 (.load false 1 (tm 139)),
 o1 11 (.mv (tm 140))]
def i6:List SOp :=
 [o1 142 (.mv (tm 0)),
 o1 143 (.nilchk (tm 142)),
 o1 144 (.faddr 0 (tm 143)),
 o1 145 (.load false 1 (tm 144)),
 o1 146 (.nilchk (tm 145)),
 o1 147 (.faddr 1 (tm 146)),
 o1 148 (.load false 1 (tm 147)),
 o1 149 (.mv (tm 11)),
 o1 150 (.mget .int false .nilptr (tm 148) (tm 149)),
 o1 151 (.nilchk (tm 150)),
 o1 152 (.faddr 0 (tm 151)),
 o1 153 (.load false 1 (tm 152)),
 o1 154 (.call 60 [(tm 153)]),
 o1 141 (.mv (tm 154)),
 o1 155 (.extract (tm 141) 0),
 o1 156 (.extract (tm 141) 1),
 o1 12 (.mv (tm 155)),
 o1 13 (.mv (tm 156))]
def i5:List SOp :=
 [o1 157 (.mv (tm 0)),
 o1 158 (.nilchk (tm 157)),
 o1 159 (.faddr 0 (tm 158)),
 o1 160 (.load false 1 (tm 159)),
 o1 161 (.nilchk (tm 160)),
 o1 162 (.faddr 2 (tm 161)),
 o1 163 (.load false 1 (tm 162)),
 o1 164 (.mv (tm 12)),
 o0 (.mdel .str (tm 163) (tm 164))]
def iZ:List SOp :=
 [o1 165 (.bin .add (tm 137) (iv 1)),
 o1 137 (.mv (tm 165))]
def iY:List SOp :=
 [o1 166 (.mv (tm 0)),
 o1 167 (.faddr 1 (tm 3)),
 o1 168 (.load false 1 (tm 167)),
 o1 169 (.call 59 [(tm 166),(tm 168),(iv (-1))])]
def iX:List SOp :=
 [o1 170 (.mv (tm 9)),
 o1 171 (.len false (tm 170)),
 o1 172 (.mv (iv 0))]
def iW:List SOp :=
 [o1 173 (.bin .lss (tm 172) (tm 171))]
def iV:List SOp :=
 [o1 174 (.iaddr 1 (tm 170) (tm 172)),
 o1 175 (.load false 1 (tm 174)),
 o1 15 (.mv (tm 175))]
def iU:List SOp :=
 [o1 176 (.mv (tm 0)),
 o1 177 (.nilchk (tm 176)),
 o1 178 (.faddr 0 (tm 177)),
 o1 179 (.load false 1 (tm 178)),
 o1 180 (.nilchk (tm 179)),
 o1 181 (.faddr 1 (tm 180)),
 o1 182 (.load false 1 (tm 181)),
 o1 183 (.mv (tm 15)),
 o1 184 (.mget .int false .nilptr (tm 182) (tm 183)),
 o1 185 (.nilchk (tm 184)),
 o1 186 (.faddr 0 (tm 185)),
 o1 187 (.load false 1 (tm 186)),
 o1 16 (.mv (tm 187))]
def iT:List SOp :=
 [o1 188 (.mv (tm 0)),
 o1 189 (.mv (tm 15)),
 o1 190 (.faddr 2 (tm 3)),
 o1 191 (.load false 1 (tm 190)),
 o1 192 (.mv (tm 16)),
 o1 193 (.mv (tm 16)),
 o1 194 (.len false (tm 193)),
 o1 195 (.faddr 1 (tm 3)),
 o1 196 (.load false 1 (tm 195)),
 o1 197 (.len false (tm 196)),
 o1 198 (.bin .sub (tm 194) (tm 197)),
 o1 199 (.slV 1 (tm 192) none (some (tm 198)) none),
 o1 200 (.call 31 [(tm 191),(tm 199)]),
 o1 201 (.call 58 [(tm 188),(tm 189),(tm 200)])]
def iS:List SOp :=
 [o1 202 (.bin .add (tm 172) (iv 1)),
 o1 172 (.mv (tm 202))]
def iR:List SOp :=
 [o1 203 (.mv (tm 0)),
 o1 204 (.faddr 2 (tm 3)),
 o1 205 (.load false 1 (tm 204)),
 o1 206 (.call 59 [(tm 203),(tm 205),(iv 1)])]
def iQ:List (ah×Kd) :=
 [od 207 (.mv (tm 0)) .pure,
 od 208 (.nilchk (tm 207)) (.read 0 0),
 od 209 (.faddr 0 (tm 208)) .pure,
 od 210 (.load false 1 (tm 209)) (.read 0 0),
 od 211 (.nilchk (tm 210)) (.read 0 0),
 od 212 (.faddr 1 (tm 211)) .pure,
 od 213 (.load false 1 (tm 212)) (.read 0 0),
 od 214 (.mv (tm 6)) .pure,
 od 215 (.mget .int false .nilptr (tm 213) (tm 214)) (.read 0 0),
 od 216 (.faddr 3 (tm 3)) .pure,
 od 217 (.load false 1 (tm 216)) (.read 0 0),
 od 218 (.call 57 [(tm 217)]) (.read 0 0)]
def io:List ah :=
 [⟨(some 219),(.nilchk (tm 215)),none⟩,
 ⟨(some 220),(.faddr 2 (tm 219)),none⟩,
 ⟨none,(.store 1 (tm 220) (tm 218)),none⟩]
def iP:List SOp :=
 [o1 4 (.mv (iv 0))]
def iI:aK:=⟨221,(.seq (.sreg ku [])
 (.seq (.seq (.sreg kr [true,false])
 (.cond (tm 18) (.seq (.sreg kq [])
 .ret)
 .skip))
 (.seq (.sdreg ko [.pure,(.read 0 0),.pure,(.read 0 0),(.read 0 0)] [true,false,false,false,false,false,false])
 (.seq (.seq (.sreg kn [true,false])
 (.cond (tm 26) (.seq (.sreg kl [true,false])
 .ret)
 .skip))
 (.seq (.sdreg kk [.pure,(.read 0 0),.pure,(.read 0 0),.pure,(.read 0 0)] [true,false,false,false,false,false,false,false])
 (.seq (.seq (.sreg kj [true,false])
 (.block 0 (.seq (.sreg ki [true,false])
 (.cond (tm 37) (.seq (.sreg kg [false,false,false,false,false,false,false,false,false,false])
 (.seq (.dregM jl ir [false,false,false,false,false,false,false,false,false,false,false,false,false,false,false,false,false,false,false])
 (.seq (.sdreg jk [.pure,.pure,(.read 0 0),.pure,(.read 0 0),(.read 0 0),.pure,(.read 0 0),.pure,(.read 0 0)] [false,false,false,false,false,false,false,false,false,false,false])
 (.sreg jj [false,false,false,false]))))
 (.seq (.sreg ji [true,false])
 (.cond (tm 83) (.seq (.sreg jh [false,true,false,false,false,false,false,false])
 (.seq (.sreg jg [false,false,false,false,false,false,false,false])
 (.seq (.sreg jf [false,false,false,false,false,false,false,false])
 (.sreg je [false,false,false,false]))))
 (.seq (.sreg jd [true,false])
 (.cond (tm 111) (.dregM jc iq [false,false,false,false,false,false,false,false,false,false,false,false,false,false])
 (.seq (.sreg jb [true,false])
 (.cond (tm 127) (.seq (.sreg ja [true,false,false,false,false,false,false])
 (.seq (.seq (.sreg i9 [])
 (.block 1 (.loop (.seq (.sreg i8 [])
 (.seq (.cond (tm 138) .skip
 (.exit 1))
 (.seq (.block 2 (.seq (.sreg i7 [true,false,false])
 (.seq (.sreg i6 [false,true,false,false,false,false,false,false,false,false,false,false,false,false,false,false,false,false])
 (.sreg i5 [false,false,false,false,false,false,false,false]))))
 (.sreg iZ [true,false])))))))
 (.seq (.sreg iY [false,false,false,false])
 (.seq (.seq (.sreg iX [])
 (.block 3 (.loop (.seq (.sreg iW [])
 (.seq (.cond (tm 173) .skip
 (.exit 3))
 (.seq (.block 4 (.seq (.sreg iV [true,false,false])
 (.seq (.sreg iU [true,false,false,false,false,false,false,false,false,false,false,false,false])
 (.sdreg iT [.pure,.pure,.pure,(.read 0 0),.pure,.pure,(.read 0 0),.pure,(.read 0 0),(.read 0 0),.pure,(.read 0 0),(.read 0 0)] [false,false,false,false,false,false,false,false,false,false,false,false,false,false]))))
 (.sreg iS [true,false])))))))
 (.seq (.sreg iR [false,false,false,false])
 (.dregM iQ io [false,false,false,false,false,false,false,false,false,false,false,false,false,false]))))))
 .skip))))))))))
 (.seq (.sreg iP [])
 .ret))))))),[(.tmp 4)]⟩
attribute [push_cast] ku kr kq ko kn kl kk kj ki kg jl ir jk jj ji jh jg jf je jd jc iq jb ja i9 i8 i7 i6 i5 iZ iY iX iW iV iU iT iS iR iQ io iP
theorem Ay:aQ Tryz.prog (fun _ _=>1) 39=some iI.raw:=by kernel_rfl
def im:List SOp :=
 [o1 3 (.box (tm 1)),
 o1 4 (.mv (iv 0))]
def il:List SOp :=
 [o1 8 (.mv (tm 0)),
 o1 9 (.eqk false .ptr (tm 8) (.av .nilptr))]
def ik:List SOp :=
 [o1 4 (.mv (iv 1))]
def ij:List SOp :=
 [o1 10 (.mv (tm 0)),
 o1 11 (.faddr 1 (tm 3)),
 o1 12 (.load false 1 (tm 11)),
 o1 13 (.call 56 [(tm 10),(tm 12)]),
 o1 5 (.mv (tm 13))]
def ii:List SOp :=
 [o1 14 (.faddr 0 (tm 3)),
 o1 15 (.load false 1 (tm 14))]
def ig:List SOp :=
 [o1 17 (.bin .eql (tm 15) (iv 1)),
 o1 16 (.mv (tm 17))]
def ie:List SOp :=
 [o1 19 (.faddr 1 (tm 3)),
 o1 20 (.load false 1 (tm 19)),
 o1 21 (.call 20 [(tm 20)]),
 o1 18 (.mv (tm 21)),
 o1 22 (.extract (tm 18) 0),
 o1 23 (.extract (tm 18) 1),
 o1 6 (.mv (tm 22)),
 o1 7 (.mv (tm 23))]
def ic:List SOp :=
 [o1 25 (.mv (tm 7)),
 o1 26 (.bin .neq (tm 25) (iv 0)),
 o1 24 (.mv (tm 26))]
def ib:List SOp :=
 [o1 4 (.mv (iv 34))]
def ia:List SOp :=
 [o1 28 (.mv (tm 5)),
 o1 29 (.bin .gtr (tm 28) (iv 0)),
 o1 27 (.mv (tm 29))]
def gM:List SOp :=
 [o1 4 (.mv (iv 68))]
def gL:List SOp :=
 [o1 31 (.mv (tm 0)),
 o1 32 (.faddr 1 (tm 3)),
 o1 33 (.load false 1 (tm 32)),
 o1 34 (.mv (tm 0)),
 o1 35 (.nilchk (tm 34)),
 o1 36 (.faddr 0 (tm 35)),
 o1 37 (.load false 1 (tm 36)),
 o1 38 (.call 80 [(tm 31),(tm 33),(tm 37)]),
 o1 39 (.un .not (tm 38)),
 o1 40 (.mv (tm 39)),
 .grp none 40 true
 [og 41 40 true (.faddr 1 (tm 3)),
 og 42 40 true (.load false 1 (tm 41)),
 og 43 40 true (.len false (tm 42)),
 og 44 40 true (.bin .eql (tm 43) (iv 0)),
 og 45 40 true (.mv (tm 44)),
 .grp (some (40,true)) 45 false
 [og 46 45 false (.mv (tm 0)),
 og 47 45 false (.faddr 1 (tm 3)),
 og 48 45 false (.load false 1 (tm 47)),
 og 49 45 false (.slV 1 (tm 48) (some (iv 1)) none none),
 og 50 45 false (.call 56 [(tm 46),(tm 49)]),
 og 51 45 false (.bin .eql (tm 50) (iv 0))]
 52 (tm 51)]
 53 (tm 52),
 o1 30 (.mv (tm 53))]
def gK:List SOp :=
 [o1 4 (.mv (iv 32))]
def gJ:List SOp :=
 [o1 55 (.mv (tm 0)),
 o1 56 (.nilchk (tm 55)),
 o1 57 (.faddr 1 (tm 56)),
 o1 58 (.load false 1 (tm 57)),
 o1 59 (.mlen (tm 58)),
 o1 60 (.bin .geq (tm 59) (iv 4096)),
 o1 54 (.mv (tm 60))]
def gI:List SOp :=
 [o1 4 (.mv (iv 80))]
def gH:List SOp :=
 [o1 4 (.mv (iv 0))]
def gG:List SOp :=
 [o1 62 (.bin .eql (tm 15) (iv 2)),
 o1 61 (.mv (tm 62))]
def gF:List SOp :=
 [o1 63 (.bin .eql (tm 15) (iv 3)),
 o1 61 (.mv (tm 63))]
def gE:List SOp :=
 [o1 64 (.bin .eql (tm 15) (iv 4)),
 o1 61 (.mv (tm 64))]
def gD:List SOp :=
 [o1 65 (.mv (tm 5)),
 o1 66 (.bin .eql (tm 65) (iv 0))]
def gC:List SOp :=
 [o1 4 (.mv (iv 32))]
def gB:List SOp :=
 [o1 67 (.faddr 0 (tm 3)),
 o1 68 (.load false 1 (tm 67))]
def gA:List SOp :=
 [o1 70 (.bin .eql (tm 68) (iv 2)),
 o1 69 (.mv (tm 70))]
def gz:List SOp :=
 [o1 71 (.mv (tm 0)),
 o1 72 (.nilchk (tm 71)),
 o1 73 (.faddr 1 (tm 72)),
 o1 74 (.load false 1 (tm 73)),
 o1 75 (.mv (tm 5)),
 o1 76 (.mget .int false .nilptr (tm 74) (tm 75)),
 o1 77 (.nilchk (tm 76)),
 o1 78 (.faddr 3 (tm 77)),
 o1 79 (.load false 1 (tm 78)),
 o1 80 (.bin .gtr (tm 79) (iv 0))]
def gy:List SOp :=
 [o1 4 (.mv (iv 66))]
def gx:List SOp :=
 [o1 4 (.mv (iv 0))]
def gw:List SOp :=
 [o1 82 (.bin .eql (tm 68) (iv 3)),
 o1 81 (.mv (tm 82))]
def gv:List SOp :=
 [o1 4 (.mv (iv 0))]
def gu:List SOp :=
 [o1 84 (.bin .eql (tm 68) (iv 4)),
 o1 83 (.mv (tm 84))]
def gr:List SOp :=
 [o1 85 (.mv (tm 0)),
 o1 86 (.mv (tm 5)),
 o1 87 (.load true 4 (tm 3)),
 o1 88 (.call 81 [(tm 85),(tm 86),(tm 87)]),
 o1 4 (.mv (tm 88))]
def gq:List SOp :=
 [o1 4 (.mv (iv 1))]
def fM:aK:=⟨89,(.seq (.sreg im [])
 (.seq (.seq (.sreg il [true,false])
 (.cond (tm 9) (.seq (.sreg ik [])
 .ret)
 .skip))
 (.seq (.sreg ij [true,false,false,false,false])
 (.seq (.seq (.sreg ii [true,false])
 (.block 0 (.seq (.sreg ig [true,false])
 (.cond (tm 16) (.seq (.sreg ie [true,false,false,false,false,false,false,false])
 (.seq (.block 1 (.seq (.sreg ic [true,false,false])
 (.cond (tm 24) (.seq (.sreg ib [])
 .ret)
 (.seq (.sreg ia [true,false,false])
 (.cond (tm 27) (.seq (.sreg gM [])
 .ret)
 (.seq (.sdreg gL [.pure,.pure,(.read 0 0),.pure,(.read 0 0),.pure,(.read 0 0),(.read 0 0),.pure,.pure,.pure,(.read 0 0),(.read 0 0),.pure,.pure,.pure,.pure,(.read 0 0),(.read 0 0)] [true,false,false,false,false,false,false,false,false,false,false,false])
 (.cond (tm 30) (.seq (.sreg gK [])
 .ret)
 (.seq (.sreg gJ [true,false,false,false,false,false,false])
 (.cond (tm 54) (.seq (.sreg gI [])
 .ret)
 .skip)))))))))
 (.seq (.sreg gH [])
 .ret)))
 (.seq (.seq (.sreg gG [true,false])
 (.cond (tm 61) .skip
 (.seq (.sreg gF [true,false])
 (.cond (tm 61) .skip
 (.sreg gE [true,false])))))
 (.cond (tm 61) (.seq (.sreg gD [true,false])
 (.cond (tm 66) (.seq (.sreg gC [])
 .ret)
 .skip))
 .skip))))))
 (.seq (.seq (.sreg gB [true,false])
 (.block 2 (.seq (.sreg gA [true,false])
 (.cond (tm 69) (.seq (.seq (.sreg gz [true,false,false,false,false,false,false,false,false,false])
 (.cond (tm 80) (.seq (.sreg gy [])
 .ret)
 .skip))
 (.seq (.sreg gx [])
 .ret))
 (.seq (.sreg gw [true,false])
 (.cond (tm 81) (.seq (.sreg gv [])
 .ret)
 (.seq (.sreg gu [true,false])
 (.cond (tm 83) (.seq (.sreg gr [true,false,false,false,false])
 .ret)
 .skip))))))))
 (.seq (.sreg gq [])
 .ret)))))),[(.tmp 4)]⟩
attribute [push_cast] im il ik ij ii ig ie ic ib ia gM gL gK gJ gI gH gG gF gE gD gC gB gA gz gy gx gw gv gu gr gq
theorem vz:aQ Tryz.prog (fun _ _=>1) 55=some fM.raw:=by kernel_rfl
def hZ:List SOp :=
 [o1 4 (.mv (iv 0))]
def hY:List SOp :=
 [o1 7 (.mv (tm 0)),
 o1 8 (.eqk false .ptr (tm 7) (.av .nilptr))]
def hP:List SOp :=
 [o1 4 (.mv (iv 0))]
def gZ:List SOp :=
 [o1 10 (.mv (tm 1)),
 o1 11 (.call 60 [(tm 10)]),
 o1 9 (.mv (tm 11)),
 o1 12 (.extract (tm 9) 0),
 o1 13 (.extract (tm 9) 1),
 o1 5 (.mv (tm 12)),
 o1 6 (.mv (tm 13))]
def gY:List SOp :=
 [o1 14 (.mv (tm 6)),
 o1 15 (.bin .neq (tm 14) (iv 0))]
def gX:List SOp :=
 [o1 4 (.mv (iv 0))]
def gW:List SOp :=
 [o1 16 (.mv (tm 0)),
 o1 17 (.nilchk (tm 16)),
 o1 18 (.faddr 2 (tm 17)),
 o1 19 (.load false 1 (tm 18)),
 o1 20 (.mv (tm 5)),
 o1 21 (.mget .str false (.int .i64 0) (tm 19) (tm 20)),
 o1 4 (.mv (tm 21))]
def cZ:aK:=⟨22,(.seq (.sreg hZ [])
 (.seq (.seq (.sreg hY [true,false])
 (.cond (tm 8) (.seq (.sreg hP [])
 .ret)
 .skip))
 (.seq (.sreg gZ [true,true,false,false,false,false,false])
 (.seq (.seq (.sreg gY [true,false])
 (.cond (tm 15) (.seq (.sreg gX [])
 .ret)
 .skip))
 (.seq (.sreg gW [true,false,false,false,false,false,false])
 .ret))))),[(.tmp 4)]⟩
attribute [push_cast] hZ hY hP gZ gY gX gW
theorem gO:aQ Tryz.prog (fun _ _=>1) 56=some cZ.raw:=by kernel_rfl
def rh:List SOp :=
 [o1 0 (.mv (.av (.bool false)))]
def rg:List SOp :=
 [o1 8 (.build [(.str []),(.str [])] [(0,(1,(.av (.str [100,99])))),(1,(1,(.av (.str [122]))))]),
 o1 9 (.bslice false 2 1 [(.str []),(.str [])] [(0,(2,(tm 8)))]),
 o1 10 (.bslice false 1 1 [(.sl [] 0 (some 0))] [(0,(1,(tm 9)))]),
 o1 1 (.mv (tm 10))]
def rf:List SOp :=
 [o1 12 (.mv (tm 1)),
 o1 13 (.build [(.int .i64 0),(.sl [] 0 (some 0)),(.sl [] 0 (some 0)),(.sl [] 0 (some 0))] [(0,(1,(iv 2))),(1,(1,(tm 12)))]),
 o1 14 (.call 8 [(tm 13)]),
 o1 11 (.mv (tm 14)),
 o1 15 (.extract (tm 11) 0),
 o1 16 (.extract (tm 11) 1),
 o1 2 (.mv (tm 15)),
 o1 3 (.mv (tm 16))]
def re:List SOp :=
 [o1 18 (.mv (tm 1)),
 o1 19 (.call 16 [(tm 18)]),
 o1 17 (.mv (tm 19)),
 o1 20 (.extract (tm 17) 0),
 o1 21 (.extract (tm 17) 1),
 o1 4 (.mv (tm 20)),
 o1 5 (.mv (tm 21))]
def rd:List SOp :=
 [o1 23 (.mv (tm 4)),
 o1 24 (.mv (tm 2)),
 o1 25 (.bslice false 1 1 [(.str [])] [(0,(1,(tm 24)))]),
 o1 26 (.call 17 [(tm 23),(tm 25)]),
 o1 22 (.mv (tm 26)),
 o1 27 (.extract (tm 22) 0),
 o1 28 (.extract (tm 22) 1),
 o1 6 (.mv (tm 27)),
 o1 7 (.mv (tm 28))]
def ra:List SOp :=
 [o1 29 (.mv (tm 3)),
 o1 30 (.bin .eql (tm 29) (iv 0)),
 o1 31 (.mv (tm 30)),
 .grp none 31 true
 [og 32 31 true (.mv (tm 2)),
 og 33 31 true (.bin .eql (tm 32) (.av (.str [48,9,2,1,2,4,4,100,99,61,122])))]
 34 (tm 33),
 o1 35 (.mv (tm 34)),
 .grp none 35 true
 [og 36 35 true (.mv (tm 6)),
 og 37 35 true (.bin .eql (tm 36) (iv 0))]
 38 (tm 37),
 o1 39 (.mv (tm 38)),
 .grp none 39 true
 [og 40 39 true (.mv (tm 7)),
 og 41 39 true (.bin .eql (tm 40) (iv 4))]
 42 (tm 41),
 o1 0 (.mv (tm 42))]
def j9:aK:=⟨43,(.seq (.sreg rh [])
 (.seq (.sreg rg [true,false,false,false])
 (.seq (.sreg rf [true,true,false,false,false,false,false,false])
 (.seq (.sreg re [false,true,false,false,false,false,false])
 (.seq (.sreg rd [true,true,false,false,false,false,false,false,false])
 (.seq (.sreg ra [true,false,false,false,false,false,false,false,false])
 .ret)))))),[(.tmp 0)]⟩
attribute [push_cast] rh rg rf re rd ra
theorem A1:aQ Tryz.prog (fun _ _=>1) 7=some j9.raw:=by kernel_rfl
def fD:List SOp :=
 [o1 2 (.mv (.av (.bool false)))]
def fC:List SOp :=
 [o1 7 (.mv (tm 0)),
 o1 8 (.len true (tm 7)),
 o1 9 (.bin .gtr (tm 8) (iv 20000))]
def fB:List SOp :=
 [o1 10 (.call 7 []),
 o1 2 (.mv (tm 10))]
def fA:List SOp :=
 [o1 12 (.mv (tm 0)),
 o1 13 (.call 13 [(tm 12)]),
 o1 11 (.mv (tm 13)),
 o1 14 (.extract (tm 11) 0),
 o1 15 (.extract (tm 11) 1),
 o1 3 (.alloc [(.int .i64 0),(.sl [] 0 (some 0)),(.sl [] 0 (some 0)),(.sl [] 0 (some 0))]),
 o0 (.store 4 (tm 3) (tm 14)),
 o1 4 (.mv (tm 15))]
def fz:List SOp :=
 [o1 17 (.mv (tm 0)),
 o1 18 (.call 14 [(tm 17)]),
 o1 16 (.mv (tm 18)),
 o1 19 (.extract (tm 16) 0),
 o1 20 (.extract (tm 16) 1),
 o1 5 (.alloc [(.int .i64 0),(.sl [] 0 (some 0)),(.sl [] 0 (some 0)),(.sl [] 0 (some 0))]),
 o0 (.store 4 (tm 5) (tm 19)),
 o1 6 (.mv (tm 20))]
def fy:List SOp :=
 [o1 21 (.call 7 []),
 o1 22 (.mv (tm 21)),
 .grp none 22 true
 [og 23 22 true (.mv (tm 4)),
 og 24 22 true (.mv (tm 6)),
 og 25 22 true (.bin .eql (tm 23) (tm 24))]
 26 (tm 25),
 o1 27 (.mv (tm 26)),
 .grp none 27 true
 [og 28 27 true (.load true 4 (tm 3)),
 og 29 27 true (.load true 4 (tm 5)),
 og 30 27 true (.call 10 [(tm 28),(tm 29)])]
 31 (tm 30),
 o1 2 (.mv (tm 31))]
def bV:aK:=⟨32,(.seq (.sreg fD [])
 (.seq (.seq (.sreg fC [true,false,false])
 (.cond (tm 9) (.seq (.sreg fB [true,false])
 .ret)
 .skip))
 (.seq (.sreg fA [true,true,false,false,false,false,false])
 (.seq (.sreg fz [true,true,false,false,false,false,false])
 (.seq (.sreg fy [true,false,false,false,false,false])
 .ret))))),[(.tmp 2)]⟩
attribute [push_cast] fD fC fB fA fz fy
theorem fm:aQ Tryz.prog (fun _ _=>1) 4=some bV.raw:=by kernel_rfl
open Go Go.Sort Go.Proofs
set_option maxHeartbeats 8000000
set_option maxRecDepth 100000
theorem F5 (z:Array Value):∀ k,(Builtin.zeroCells z k).size=k * z.size:=by
 intro k
 simp [Builtin.zeroCells]
theorem JC:∃ i0,Tryz.prog.info? 46=some i0∧i0.zero=some (.slice none 0 0)∧i0.size=1∧i0.bytes=24:=by
 have h:(Tryz.prog.info? 46).map (fun i=>(i.zero,i.size,i.bytes))=some (some (.slice none 0 0),1,24):=by kernel_rfl
 cases hi:Tryz.prog.info? 46 with
 | none=>rw [hi] at h;cases h
 | some i0 =>
   rw [hi] at h
   simp only [Option.map_some,Option.some.injEq,Prod.mk.injEq] at h
   exact ⟨i0,rfl,h⟩
theorem JE {L:List Blk} {K:AV→List Blk→Prop} (h:K (.sl [] 0 (some 0)) L):ad Tryz.prog 73 [.sl [] 0 (some 0),.int .i64 0] L K :=
 iL Tryz.func73 rfl (by kernel_rfl) (fun w0 S0 E w vs hR hv=>by
   simp only [VRL] at hv
   obtain ⟨v,_,rfl,hv,_,_,rfl,h2,rfl⟩:=hv
   have hv':=hv
   simp only [VR] at hv h2
   obtain ⟨p,c,rfl,_,h3,_⟩:=hv
   have hc:c=0:=h3 0 rfl
   subst hc
   subst h2
   exact (Any8.slices_Grow_room Tryz.growD p 0 0 0 w (Nat.le_refl _) (by omega) (by omega) (by omega)).mono fun e w' ⟨he,hw⟩=>⟨_,he,hv',by subst hw;exact E8.refl _⟩) h
theorem KX {n:Nat} (h0:0<n) (hn:n≤4000000) {L:List Blk} {K:AV→List Blk→Prop} (h:K (.lsl L.length 0 0 none 1) (L++[.cells []])):ad Tryz.prog 73 [.sl [] 0 (some 0),.int .i64 (n:Int)] L K:=fun w0 S0 E w vs hR hv=>by
 simp only [VRL,VR] at hv
 obtain ⟨_,_,rfl,⟨p,c,rfl,_,h3,_⟩,_,_,rfl,rfl,rfl⟩:=hv
 have hc:c=0:=h3 0 rfl
 subst hc
 obtain ⟨i0,i1,i2,i3,i4⟩:=JC
 refine .inl ⟨gm Tryz.func73 rfl (by kernel_rfl) _ _,(Any8.slices_Grow_grow Tryz.growD i0 (.slice none 0 0) i1 i2 (by omega) p 0 0 n [] w (Nat.le_refl _) (by omega) (by rw [i4];omega) (by omega) (by simp) (fun _=>rfl) (fun a _ j v hj=>by simp at hj)).mono ?_⟩
 rintro e w' ⟨rfl,rfl⟩
 have r0:Rel w0 S0 E L w.drew:=hR.grown ⟨fun _ _=>rfl,Nat.le_refl _,rfl,rfl,rfl⟩
 let cs:Array Value:=([]:List Value).toArray++Builtin.zeroCells (Value.slice none 0 0).cells (0+n - 0)++Builtin.zeroCells (Value.slice none 0 0).cells (grownCap w (0+n) 0 46 - (0+n))
 have hcs:cs.size=n+(grownCap w (0+n) 0 46 - n):=by
   simp only [cs,Array.size_append,F5]
   have:(Value.slice none 0 0).cells.size=1:=rfl
   rw [this]
   simp
 have r1:=r0.push (.cells cs 46) (.cells []) ⟨w.heap.size,0,cs.size⟩ rfl rfl ⟨⟨w.heap.size,0,cs.size⟩,cs,46,(0,0),by simp,(show (w.heap.push (Obj.cells cs 46))[w.heap.size]?=some (Obj.cells cs 46 (0,0)) by simp),rfl,by simp,(fun j a ha=>by simp at ha),fun o _ _=>by omega⟩
 refine ⟨_,_,_,_,rfl,r1.1,h,?_,r1.2⟩
 simp only [VR]
 exact ⟨⟨w.heap.size,0,cs.size⟩,grownCap w (0+n) 0 46,0,by simp,rfl,fun _=>rfl,Nat.zero_le _,(fun k hk=>by cases hk),by simp only [hcs];omega⟩
abbrev Ev (l:List AV):AV:=.sl l l.length none
theorem KH {ls:List (List AV)} {k:Nat} (h:k<ls.length):(ls.map Ev).getD k .undef=Ev (ls.getD k []):=by simp [h]
theorem GS {ls:List (List AV)} {k:Nat} (h:k<ls.length):(ls.take (k+1)).flatten=(ls.take k).flatten++ls.getD k []:=by
 rw [List.take_succ_eq_append_getElem h,List.flatten_append];simp [h]
theorem JN (ls:List (List AV)) (k:Nat):(ls.take k).flatten.length≤ls.flatten.length:=by
 have h:ls.flatten=(ls.take k).flatten++(ls.drop k).flatten:=by rw [← List.flatten_append,List.take_append_drop]
 rw [h];simp
theorem Iy {ls:List (List AV)} {cap:Option Nat} (hn:ls.length≤1100000) (ht:ls.flatten.length≤1100000) (hone:∀ l∈ls,l.all AV.one=true) (href:∀ p,AV.refsL p ls.flatten=true) {L:List Blk} {K:AV→List Blk→Prop} (h:K (.sl ls.flatten ls.flatten.length none) L) :
   ad Tryz.prog 49 [.sl (ls.map Ev) ls.length cap] L K:=by
 replace h:=hid h
 have htk:=hid (fun k=>@GS ls k)
 have hle:=hid (JN ls)
 have hat:=hid (fun k=>@KH ls k)
 replace hone:=hid hone
 replace href:=hid href
 refine ac eV (by simp [bB]) ?_
 simp only [bB,aj]
 refine wk ?_
 refine ak (fun n T' L'=>∃ k:Nat,n=ls.length - k∧k≤ls.length∧T'=[(11,.int .i64 (k:Int)),(10,.int .i64 ls.length),(9,.sl (ls.map Ev) ls.length cap),(3,.int .i64 ((ls.take k).flatten.length:Int)),(2,.sl [] 0 (some 0)),(0,.sl (ls.map Ev) ls.length cap)]∧L=L') (CutS (b:=Nat.le_refl _)) ⟨0,rfl,Nat.zero_le _,rfl,rfl⟩ ?_
 rintro _ _ _ ⟨k,rfl,hk,rfl,rfl⟩
 by_cases hlt:k<ls.length
 · have g1:(k:Int)<(ls.length:Int):=by omega
   have g2:IntKind.i64.wrap ((k:Int)+1)=(k:Int)+1:=ab (by omega) (by omega)
   have e1:=htk.out k hlt
   have e2:=hat.out k hlt
   have e3:=hle.out (k+1)
   obtain ⟨l,hl⟩:∃ l,ls.getD k []=l:=⟨_,rfl⟩
   rw [hl] at e1 e2
   have e4:(ls.take (k+1)).flatten.length=(ls.take k).flatten.length+l.length:=by rw [e1,List.length_append]
   rw [e4] at e3
   obtain ⟨m,hm⟩:∃ m,(ls.take k).flatten.length=m:=⟨_,rfl⟩
   rw [hm] at e3 e4 ⊢
   replace e1:=hid e1
   replace hm:=hid hm
   replace hl:=hid hl
   have g3:IntKind.i64.wrap ((m:Int)+(l.length:Int))=(m:Int)+(l.length:Int):=ab (by omega) (by omega)
   have g4:¬ ((m:Int)+(l.length:Int)<0):=by omega
   refine wk ?_
   exact an _ _ _ (by omega) (CutL (b:=Nat.le_refl _)) ⟨k+1,rfl,hlt,rfl,rfl⟩
 · have hke:k=ls.length:=by omega
   subst hke
   clear hlt hk
   have g1:¬ (ls.length:Int)<(ls.length:Int):=by omega
   obtain ⟨m,hm⟩:∃ m,ls.flatten.length=m:=⟨_,rfl⟩
   rw [List.take_length,hm]
   rw [hm] at h ht
   rcases Nat.eq_zero_or_pos m with h0|hpos
   · subst h0
     have hnil:=hid (List.length_eq_zero_iff.1 hm)
     have kk1:=@hid _ @JE
     refine wk ?_
     refine cj (l:=[]) (n:=0) 6 1 rfl (Nat.zero_mul 1).symm ?_
     refine ak (fun n T' L'=>∃ k:Nat,n=ls.length - k∧k≤ls.length∧T'=[(27,.int .i64 (k:Int)),(26,.int .i64 ls.length),(25,.sl (ls.map Ev) ls.length cap),(6,.gsl [] 0 L.length 1)]∧L'=L++[.spare 0 1]) (CutS (b:=by simp)) ⟨0,rfl,Nat.zero_le _,rfl,rfl⟩ ?_
     rintro _ _ _ ⟨k,rfl,hk,rfl,rfl⟩
     by_cases hlt:k<ls.length
     · have g1:(k:Int)<(ls.length:Int):=by omega
       have g2:IntKind.i64.wrap ((k:Int)+1)=(k:Int)+1:=ab (by omega) (by omega)
       have e2:=hat.out k hlt
       have e3:ls.getD k []=[]:=List.flatten_eq_nil_iff.1 hnil.out _ (by rw [List.getD_eq_getElem?_getD,List.getElem?_eq_getElem hlt];exact List.getElem_mem _)
       rw [e3] at e2
       replace e2:(ls.map Ev).getD k .undef=.sl [] 0 none:=e2
       clear e3
       refine wk ?_
       exact an _ _ _ (by omega) (CutL (b:=by simp)) ⟨k+1,rfl,hlt,rfl,rfl⟩
     · have hke:k=ls.length:=by omega
       subst hke
       have g1:¬ (ls.length:Int)<(ls.length:Int):=by omega
       refine wk ?_
       refine ao (aa (by rfl) ?_)
       have:=h.out
       rw [hnil.out] at this
       exact this
   · have kk1:=@hid _ (fun L K=>KX hpos (by omega) (L:=L) (K:=K))
     refine wk ?_
     refine ak (fun n T' L'=>∃ (k i:Nat) (X:List Blk) (c:List AV),n=ls.length - k∧k≤ls.length∧Hid (c=(ls.take k).flatten)∧c.length≤m∧i=L.length+X.length∧T'=[(27,.int .i64 (k:Int)),(26,.int .i64 ls.length),(25,.sl (ls.map Ev) ls.length cap),(6,.lsl i 0 c.length none 1)]∧L'=L++(X++[.cells c])) (CutS (b:=by simp)) ⟨0,L.length,[],[],rfl,Nat.zero_le _,hid rfl,Nat.zero_le _,rfl,rfl,rfl⟩ ?_
     rintro _ _ _ ⟨k,i,X,c,rfl,hk,hc,hcm,hi,rfl,rfl⟩
     have hget:(L++(X++[Blk.cells c]))[i]?=some (.cells c):=by subst hi;simp
     replace hi:=hid hi
     by_cases hlt:k<ls.length
     · have g1:(k:Int)<(ls.length:Int):=by omega
       have g2:IntKind.i64.wrap ((k:Int)+1)=(k:Int)+1:=ab (by omega) (by omega)
       have e1:=htk.out k hlt
       have e2:=hat.out k hlt
       have e3:=hle.out (k+1)
       obtain ⟨l,hl⟩:∃ l,ls.getD k []=l:=⟨_,rfl⟩
       have hones:l.all AV.one=true:=hone.out l (by rw [← hl];simp [hlt])
       rw [hl] at e1 e2
       rw [← hc.out] at e1
       have e4:c.length+l.length≤m:=by rw [e1,List.length_append,hm] at e3;exact e3
       have e5:(c.length+l.length) * 24≤140737488355328:=by omega
       have e6:c.length+l.length≤140737488355328:=by omega
       replace e1:=hid e1
       replace hl:=hid hl
       clear e3
       have hdead:(L++(X++[Blk.cells c])).set i .dead=L++(X++[.dead]):=by rw [hi.out];simp
       have hlen:(L++(X++[Blk.dead])).length=i+1:=by rw [hi.out];simp;omega
       refine wk ?_
       refine an _ _ _ ?_ (CutL (b:=by simp)) ⟨k+1,i+1,X++[.dead],c++l,rfl,hlt,hid e1.out.symm,by simpa using e4,by rw [hi.out];simp;omega,rfl,?_⟩
       · omega
       · simp [List.take_of_length_le]
     · have hke:k=ls.length:=by omega
       subst hke
       have g1:¬ (ls.length:Int)<(ls.length:Int):=by omega
       refine wk ?_
       refine J7 (i:=i) (l:=c) hget ?_
       rw [show (L++(X++[Blk.cells c])).set i .dead=L++(X++[.dead]) by rw [hi.out];simp]
       have e:=hc.out
       rw [List.take_length] at e
       have hs:(AV.lsl i 0 c.length none 1).snap i c=.sl c c.length none:=by simp [AV.snap,List.take_of_length_le]
       rw [hs,e,hm]
       exact aa (by simp only [AV.refs,href.out]) h.out
theorem Gv {d:List Rdn} {cap cap':Option Nat} (hn:d.length≤1100000) (hr:∀ r∈d,r.length≤1100000) {L:List Blk} {K:AV→List Blk→Prop} (h:K (.sl (d.map aH) d.length none) L) :
   ad Tryz.prog 31 [.sl (d.map aH) d.length cap,.sl [] 0 cap'] L K:=by
 replace h:=hid h
 have hat:=hid (fun k=>@rt d k)
 replace hr:=hid hr
 have kk1:Hid (∀ {L:List Blk} {K:AV→List Blk→Prop},K (.sl (d.map aH) d.length none) L→ad Tryz.prog 49 [.sl [.sl [] 0 cap',.sl (d.map aH) d.length cap] 2 (some 2)] L K):=@hid _ (by
   intro L K q
   refine dL ?_
   simp only [AV.frzL,AV.frz,bJ]
   have:=@Iy [[],d.map aH] none (by simp) (by simpa using hn) (fun l hl=>by
     simp at hl
     rcases hl with rfl|rfl
     · rfl
     · rw [List.all_eq_true];intro a ha;obtain ⟨r,_,rfl⟩:=List.mem_map.1 ha;rfl) (fun p=>by simpa using dm p d) L K
   simp only [List.flatten_cons,List.flatten_nil,List.append_nil,List.nil_append,List.map_cons,List.map_nil,List.length_map,List.length_nil,List.length_cons,Ev] at this
   exact this q)
 refine ac EZ (by simp [A4]) ?_
 simp only [A4,aj]
 refine wk ?_
 refine cj (l:=[]) (n:=0) 5 1 rfl (Nat.zero_mul 1).symm ?_
 refine ak (fun m T' L'=>∃ (k:Nat) (C:List AV) (X:List Blk),m=d.length - k∧k≤d.length∧Hid (C=(d.take k).map aH)∧T'=[(13,.int .i64 (k:Int)),(12,.int .i64 d.length),(11,.sl (d.map aH) d.length none),(5,.gsl C k L.length 1)]∧L'=L++(.spare k 1::X)) (CutS (b:=by simp)) ⟨0,[],[],rfl,Nat.zero_le _,hid rfl,rfl,by simp⟩ ?_
 rintro _ _ _ ⟨k,C,X,rfl,hk,hC,rfl,rfl⟩
 by_cases hlt:k<d.length
 · have g1:(k:Int)<(d.length:Int):=by omega
   have g2:IntKind.i64.wrap ((k:Int)+1)=(k:Int)+1:=ab (by omega) (by omega)
   have e2:=hat.out k hlt
   have e3:k<(d.map aH).length:=by simpa using hlt
   obtain ⟨r,hri⟩:∃ r,d.getD k []=r:=⟨_,rfl⟩
   have hrl:=hr.out r (by rw [← hri];simp [hlt])
   have htk:(d.take (k+1)).map aH=C++[.sl (a7 r) r.length none]:=by
     rw [hC.out,List.take_succ_eq_append_getElem hlt,List.map_append,show d[k]=r by rw [← hri];simp [hlt]];rfl
   rw [hri] at e2
   have e4:=gT r
   have e5:=dp r
   replace htk:=hid htk
   clear hri hC
   refine wk ?_
   exact an _ _ _ (by omega) (CutL (b:=by simp)) ⟨k+1,_,_,rfl,hlt,hid htk.out.symm,rfl,rfl⟩
 · have hke:k=d.length:=by omega
   subst hke
   have g1:¬ (d.length:Int)<(d.length:Int):=by omega
   have hC2:=hC.out
   rw [List.take_length] at hC2
   subst hC2
   clear hC
   refine wk ?_
   refine ao ?_
   simp only [AV.frz,bJ]
   exact aa (by simp only [AV.refs,dm]) h.out
set_option maxHeartbeats 8000000
set_option maxRecDepth 100000
def Eo (u:Upd):Prop:=dnB u.dn∧dnB u.to∧u.attrs.length≤1100000∧∀ a∈u.attrs,a.2.length≤1100000
theorem L6 {u:Upd} (hu:Eo u) {L:List Blk} {K:AV→List Blk→Prop} (h:K (.agg (gk (dE u))) L):ad Tryz.prog 11 [.agg (gk u)] L K:=by
 obtain ⟨k,d,t,l⟩:=u
 obtain ⟨hd,ht,hl,hv⟩:=hu
 simp only [gk,dE] at hd ht hl hv h ⊢
 obtain ⟨t',ht'⟩:∃ t',(if k=4 then t else [])=t':=⟨_,rfl⟩
 obtain ⟨l',hl'⟩:∃ l',(if k=2 then [] else l)=l':=⟨_,rfl⟩
 rw [ht',hl'] at h
 have hdt:dnB t':=by
   rw [← ht']
   split
   · exact ht
   · exact ⟨by simp,by simp⟩
 have hll:l'.length≤1100000:=by
   rw [← hl']
   split
   · simp
   · exact hl
 have hvv:∀ a∈l',a.2.length≤1100000:=by
   rw [← hl']
   split
   · simp
   · exact hv
 replace h:=hid h
 have kk1:Hid (∀ {cap:Option Nat} {L:List Blk} {K:AV→List Blk→Prop},K (dnA d) L→ad Tryz.prog 31 [dnA d,.sl [] 0 cap] L K):=@hid _ (by intro cap L K q;exact Gv hd.1 hd.2 q)
 have kk2:Hid (∀ {cap:Option Nat} {L:List Blk} {K:AV→List Blk→Prop},K (dnA t') L→ad Tryz.prog 31 [dnA t',.sl [] 0 cap] L K):=@hid _ (by intro cap L K q;exact Gv hdt.1 hdt.2 q)
 refine ac AZ (by simp [j7]) ?_
 simp only [j7,aj]
 iterate 3 first
   | refine cc ?_
   | (first|refine bs (by kernel_rfl) ?_|refine aT (by kernel_rfl) ?_|refine aU ?_|refine dw ?_|refine bY (fun _=>?_)|refine aF ?_|refine bv ?_)
     simp (config:={ maxSteps:=2000000 }) only [Kon,push_cast,reduceIte,Nat.reduceEqDiff,Nat.reduceAdd,Nat.reduceMul,Nat.reduceSub,Nat.reduceLT,Nat.reduceLeDiff,Int.reduceLT,Int.reduceLE,Int.reduceAdd,Int.reduceSub,Int.reduceNeg,Int.reduceToNat,Int.reduceEq,reduceCtorEq, *]
   | (first|refine bo (by kernel_rfl) ?_|refine bt ?_|refine bu ?_|refine ce (aE ?_))
     simp only [push_cast,reduceIte,Nat.reduceEqDiff,Nat.reduceAdd,Nat.reduceMul,Nat.reduceSub,Nat.reduceLT,Nat.reduceLeDiff,Int.reduceLT,Int.reduceLE,Int.reduceAdd,Int.reduceSub,Int.reduceNeg,Int.reduceToNat,Int.reduceEq,reduceCtorEq, *]
   | exact bZ
   | first|apply b9|apply bp|apply ca|apply bq|apply cb|apply br
   | refine aX ?_
   | first|refine aV rfl ?_|refine aW rfl ?_|refine aA rfl ?_ ?_|refine ba rfl (fun _=>?_) (fun _=>?_)|refine a8 rfl (fun _=>?_) (fun _=>?_)
   | ((first|refine ay (fun _=>?_) (fun _=>?_)|refine aC (fun _=>?_) (fun _=>?_))<;>try simp (config:={ maxSteps:=2000000 }) only [Kon,push_cast,reduceIte,Nat.reduceEqDiff,Nat.reduceAdd,Nat.reduceMul,Nat.reduceSub,Nat.reduceLT,Nat.reduceLeDiff,Int.reduceLT,Int.reduceLE,Int.reduceAdd,Int.reduceSub,Int.reduceNeg,Int.reduceToNat,Int.reduceEq,reduceCtorEq, *])
   | refine And.intro trivial ?_
   | refine And.intro (by omega) ?_
   | refine aY rfl (fun _=>?_) (fun _=>?_)
   | refine And.intro ?_ ?_
 refine nH (fun T2 L2=>∃ tA,tA.frz=dnA t'∧T2=[(2,.ptr (L.length+1) 0),(1,.ptr L.length 0)]∧L2=L++[.cells [.int .i64 k,dnA d,tA,.sl (bI l) l.length none],.cells [.int .i64 0,.sl [] 0 (some 0),.sl [] 0 (some 0),.sl [] 0 (some 0)]]) ?_ ?_
 · by_cases h4:k=4
   · rw [if_pos h4] at ht'
     subst ht'
     clear hl' h kk1 kk2
     refine wk ?_
     exact eO _ _ (CutS (b:=by simp)) ⟨_,by simp only [AV.frz,bJ],rfl,rfl⟩
   · rw [if_neg h4] at ht'
     subst ht'
     clear hl' h kk1 kk2
     refine wk ?_
     exact eO _ _ (CutS (b:=by simp)) ⟨.sl [] 0 (some 0),rfl,rfl,rfl⟩
 rintro _ _ ⟨tA,htA,rfl,rfl⟩ -
 refine nH (fun T2 L2=>∃ lA,lA.frz=.sl (bI l') l'.length none∧T2=[(2,.ptr (L.length+1) 0),(1,.ptr L.length 0)]∧L2=L++[.cells [.int .i64 k,dnA d,tA,lA],.cells [.int .i64 0,.sl [] 0 (some 0),.sl [] 0 (some 0),.sl [] 0 (some 0)]]) ?_ ?_
 · by_cases h2:k=2
   · rw [if_pos h2] at hl'
     subst hl'
     clear ht' h kk1 kk2 htA
     refine wk ?_
     exact eO _ _ (CutS (b:=by simp)) ⟨.sl [] 0 (some 0),rfl,rfl,rfl⟩
   · rw [if_neg h2] at hl'
     subst hl'
     clear ht' h kk1 kk2 htA
     refine wk ?_
     exact eO _ _ (CutS (b:=by simp)) ⟨_,by simp only [AV.frz,vd],rfl,rfl⟩
 rintro _ _ ⟨lA,hlA,rfl,rfl⟩ -
 refine Lh L.length (c:=[.int .i64 k,dnA d,tA,lA]) (by simp) ?_
 have eL:(L++[Blk.cells [.int .i64 k,dnA d,tA,lA],.cells [.int .i64 0,.sl [] 0 (some 0),.sl [] 0 (some 0),.sl [] 0 (some 0)]]).set L.length (.cells (AV.frzL [.int .i64 k,dnA d,tA,lA]))=L++[.cells [.int .i64 k,dnA d,dnA t',.sl (bI l') l'.length none],.cells [.int .i64 0,.sl [] 0 (some 0),.sl [] 0 (some 0),.sl [] 0 (some 0)]]:=by
   simp only [AV.frzL,htA,hlA,AV.frz,bJ]
   simp
 rw [eL]
 clear eL htA hlA ht' hl'
 replace hvv:=hid hvv
 refine wk ?_
 refine ⟨⟨aD (kk2.out ⟨rfl,rfl⟩) rfl,aD (kk1.out ⟨rfl,rfl⟩) rfl⟩,?_⟩
 clear kk1 kk2
 refine wk ?_
 refine fo (L.length+2) 3 2 (c:=[.int .i64 k,dnA d,dnA t',.sl [] 0 (some 0)]) (l:=[]) (n:=0) (by simp) rfl (Nat.zero_mul 2).symm ?_
 refine ak (fun m T' L'=>∃ (i:Nat) (D:List AV) (X:List Blk),m=l'.length - i∧i≤l'.length∧Hid (D=bI (l'.take i))∧T'=[(26,.int .i64 (i:Int)),(25,.int .i64 l'.length),(24,.sl (bI l') l'.length none),(3,.ptr (L.length+2) 0),(2,.ptr (L.length+1) 0),(1,.ptr L.length 0)]∧L'=L++(.cells [.int .i64 k,dnA d,dnA t',.sl (bI l') l'.length none] :: .cells [.int .i64 0,.sl [] 0 (some 0),.sl [] 0 (some 0),.sl [] 0 (some 0)] :: .cells [.int .i64 k,dnA d,dnA t',.gsl D i (L.length+3) 2] :: .spare i 2::X)) (CutS (b:=by simp)) ⟨0,[],[],rfl,Nat.zero_le _,hid rfl,rfl,by simp⟩ ?_
 rintro _ _ _ ⟨i,D,X,rfl,hi,hD,rfl,rfl⟩
 by_cases hlt:i<l'.length
 · have g3:(i:Int)<(l'.length:Int):=by omega
   have w2:IntKind.i64.wrap ((i:Int)+1)=(i:Int)+1:=ab (by omega) (by omega)
   have e3:=vu hlt
   have e4:i * 2+2≤(bI l').length:=by rw [AA];omega
   obtain ⟨⟨n,vs⟩,ha⟩:∃ a,l'.getD i ([],[])=a:=⟨_,rfl⟩
   have hvl:vs.length≤1100000:=hvv.out (n,vs) (by rw [← ha];simp [hlt])
   rw [ha] at e3
   simp only [atA] at e3
   have htk:bI (l'.take (i+1))=D++[.str n,.sl (vs.map AV.str) vs.length none]:=by
     rw [hD.out,List.take_succ_eq_append_getElem hlt,show l'[i]=(n,vs) by rw [← ha];simp [hlt],Dx]
     rfl
   have e0:=At vs
   replace htk:=hid htk
   clear ha hD hvv
   refine wk ?_
   exact an _ _ _ (by omega) (CutL (b:=by simp)) ⟨i+1,_,_,rfl,hlt,hid htk.out.symm,rfl,rfl⟩
 · have hke:i=l'.length:=by omega
   subst hke
   have g3:¬ (l'.length:Int)<(l'.length:Int):=by omega
   have hD2:=hD.out
   rw [List.take_length] at hD2
   have e0:=vd l'
   subst hD2
   clear hD hvv
   refine wk ?_
   refine ao ?_
   simp only [AV.frz,AV.frzL,bJ,e0]
   exact aa (by simp only [AV.refs,AV.refsL,dm,m7];rfl) h.out
set_option maxHeartbeats 8000000
set_option maxRecDepth 100000
theorem Hg {d:List Rdn} {cap cap':Option Nat} (hn:d.length≤1100000) (hr:∀ r∈d,r.length≤1100000) {L:List Blk} {K:AV→List Blk→Prop} (h:K (.bool true) L) :
   ad Tryz.prog 29 [.sl (d.map aH) d.length cap,.sl (d.map aH) d.length cap'] L K:=by
 replace h:=hid h
 have hat:=hid (fun k=>@rt d k)
 replace hr:=hid hr
 refine ac Ch (by simp [nw]) ?_
 simp only [nw,aj]
 refine wk ?_
 refine ak (fun m T' L'=>∃ k:Nat,m=d.length - k∧k≤d.length∧T'=[(14,.int .i64 (k:Int)),(13,.int .i64 d.length),(0,.sl (d.map aH) d.length cap),(1,.sl (d.map aH) d.length cap')]∧L=L') (CutS (b:=Nat.le_refl _)) ⟨0,rfl,Nat.zero_le _,rfl,rfl⟩ ?_
 rintro _ _ L' ⟨k,rfl,hk,rfl,e⟩
 subst e
 by_cases hlt:k<d.length
 · have g1:(k:Int)<(d.length:Int):=by omega
   have g2:IntKind.i64.wrap ((k:Int)+1)=(k:Int)+1:=ab (by omega) (by omega)
   have e2:=hat.out k hlt
   have e3:k<(d.map aH).length:=by simpa using hlt
   obtain ⟨r,hri⟩:∃ r,d.getD k []=r:=⟨_,rfl⟩
   have hrl:=hr.out r (by rw [← hri];simp [hlt])
   rw [hri] at e2
   clear hri
   refine wk ?_
   refine ak (fun m T' L'=>∃ j:Nat,m=r.length - j∧j≤r.length∧T'=[(33,.int .i64 (j:Int)),(32,.int .i64 r.length),(5,.int .i64 (k:Int)),(14,.int .i64 (k:Int)),(13,.int .i64 d.length),(0,.sl (d.map aH) d.length cap),(1,.sl (d.map aH) d.length cap')]∧L=L') (CutS (b:=Nat.le_refl _)) ⟨0,rfl,Nat.zero_le _,rfl,rfl⟩ ?_
   rintro _ _ L' ⟨j,rfl,hj,rfl,e⟩
   subst e
   by_cases hjl:j<r.length
   · have j1:(j:Int)<(r.length:Int):=by omega
     have j2:IntKind.i64.wrap ((j:Int)+1)=(j:Int)+1:=ab (by omega) (by omega)
     have e5:=eM hjl
     have e6:j * 2+2≤(a7 r).length:=by rw [dp];omega
     obtain ⟨⟨ty,va⟩,ha⟩:∃ a,r.getD j ([],[])=a:=⟨_,rfl⟩
     rw [ha] at e5
     simp only [rp] at e5
     clear ha
     refine wk ?_
     exact an _ _ _ (by omega) (CutL (b:=by simp)) ⟨j+1,rfl,hjl,rfl,rfl⟩
   · have j1:¬ (j:Int)<(r.length:Int):=by omega
     refine wk ?_
     exact an _ _ _ (by omega) (CutL (b:=by simp)) ⟨k+1,rfl,hlt,rfl,rfl⟩
 · have g1:¬ (k:Int)<(d.length:Int):=by omega
   refine wk ?_
   exact aq h.out
theorem KD {u:Upd} (hu:Eo u) {L:List Blk} {K:AV→List Blk→Prop} (h:K (.bool true) L):ad Tryz.prog 10 [.agg (gk u),.agg (gk u)] L K:=by
 obtain ⟨k,d,t,l⟩:=u
 obtain ⟨hd,ht,hl,hv⟩:=hu
 simp only [gk] at hd ht hl hv ⊢
 replace h:=hid h
 have kk1:Hid (∀ {L:List Blk} {K:AV→List Blk→Prop},K (.bool true) L→ad Tryz.prog 29 [dnA d,dnA d] L K):=@hid _ (by intro L K q;exact Hg hd.1 hd.2 q)
 have kk2:Hid (∀ {L:List Blk} {K:AV→List Blk→Prop},K (.bool true) L→ad Tryz.prog 29 [dnA t,dnA t] L K):=@hid _ (by intro L K q;exact Hg ht.1 ht.2 q)
 have kk3:Hid (∀ {L:List Blk} {K:AV→List Blk→Prop},K (.bool true) L→ad Tryz.prog 30 [.sl (bI l) l.length none,.sl (bI l) l.length none] L K):=@hid _ (by intro L K q;exact LG hl hv q)
 refine ac Cd (by simp [nq]) ?_
 simp only [nq,aj]
 refine wk ?_
 exact aa rfl h.out
set_option maxHeartbeats 8000000
set_option maxRecDepth 100000
def MD (d:List Rdn):Prop:=(d.length:Int)≤9223372036854775807∧∀ r∈d,(r.length:Int)≤9223372036854775807
end Go.Proofs.YtgpnbkdcdmfgcaaGreat.Av
