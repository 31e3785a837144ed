/- Joined texts of the walk, made small by a program. -/
import Derived.Test.YtohflefnbajajaaGreatDoorVP4
import Derived.Test.YtohflefnbajajaaGreatDoorRows
import Derived.KernelRfl
import Derived.Test.YtohflefnbajajaaGreatDoorVE4
import Derived.Test.YtohflefnbajajaaGreatDoorVE1
import Derived.Test.YtohflefnbajajaaGreatDoorVE7
import Derived.Test.YtohflefnbajajaaGreatDoorVE9
import Derived.Test.YtohflefnbajajaaGreatDoorVEoH
set_option linter.unusedSimpArgs false
set_option linter.unusedVariables false
set_option maxRecDepth 100000
namespace Go.Proofs.YtohflefnbajajaaGreatDoor.Av
open Go
def tV:List SOp :=
 [o1 2 (.mv (.av (.sl [] 0 (some 0))))]
def tU:List SOp :=
 [o1 3 (.mv (.av (.sl [] 0 (some 0))))]
def tT:List SOp :=
 [o1 6 (.mv (tm 0)),
 o1 7 (.len false (tm 6)),
 o1 8 (.mv (iv 0))]
def tQ:List SOp :=
 [o1 9 (.bin .lss (tm 8) (tm 7))]
def tP:List SOp :=
 [o1 10 (.iaddr 2 (tm 6) (tm 8)),
 o1 11 (.load true 2 (tm 10)),
 o1 5 (.alloc [(.str []),(.sl [] 0 (some 0))]),
 o0 (.store 2 (tm 5) (tm 11))]
def tO:List (ah×Kd) :=
 [od 12 (.mv (tm 3)) .pure,
 od 13 (.faddr 0 (tm 5)) .pure,
 od 14 (.load false 1 (tm 13)) (.read 0 1),
 od 15 (.bslice false 1 0 [] []) (.read 0 0),
 od 16 (.faddr 1 (tm 5)) .pure,
 od 17 (.load false 1 (tm 16)) (.read 0 0),
 od 18 (.app 0 1 16 [(.str [])] (tm 15) (tm 17)) .eff,
 od 19 (.build [(.str []),(.sl [] 0 (some 0))] [(0,(1,(tm 14))),(1,(1,(tm 18)))]) .pure,
 od 20 (.bslice false 2 1 [(.str []),(.sl [] 0 (some 0))] [(0,(2,(tm 19)))]) (.read 0 0)]
def pM:List ah :=
 [⟨(some 21),(.app 1 2 40 [(.str []),(.sl [] 0 (some 0))] (tm 12) (tm 20)),none⟩,
 ⟨(some 3),(.mv (tm 21)),none⟩]
def tN:List SOp :=
 [o1 22 (.bin .add (tm 8) (iv 1)),
 o1 8 (.mv (tm 22))]
def tM:List SOp :=
 [o1 23 (.mv (tm 3)),
 o1 2 (.mv (tm 23))]
def o6:aU:=⟨24,(.seq (.sreg tV [])
 (.seq (.sreg tU [])
 (.seq (.seq (.sreg tT [])
 (.block 0 (.loop (.seq (.sreg tQ [])
 (.seq (.cond (tm 9) .skip
 (.exit 0))
 (.seq (.block 1 (.seq (.sreg tP [true,false,false])
 (.dregM tO pM [true,false,false,false,false,false,false,false,false,false,false])))
 (.sreg tN [true,false])))))))
 (.seq (.sreg tM [true,false])
 .ret)))),[(.tmp 2)]⟩
attribute [push_cast] tV tU tT tQ tP tO pM tN tM
theorem Eu:aW Tryz.prog (fun r i=>if r=5∧i=6 then 0 else 1) 23=some o6.raw:=by kernel_rfl
def Xc:List SOp :=
 [o1 3 (.box (tm 0)),
 o1 5 (.box (tm 2)),
 o1 6 (.mv (.av (.sl [] 0 (some 0)))),
 o1 7 (.mv (iv 0))]
def Xb:List SOp :=
 [o1 20 (.faddr 0 (tm 5)),
 o1 21 (.load false 1 (tm 20)),
 o1 22 (.bin .lss (tm 21) (iv 0)),
 o1 23 (.mv (tm 22)),
 .grp none 23 false
 [og 24 23 false (.faddr 0 (tm 5)),
 og 25 23 false (.load false 1 (tm 24)),
 og 26 23 false (.bin .gtr (tm 25) (iv 2))]
 27 (tm 26)]
def W0:List SOp :=
 [o1 6 (.mv (.av (.sl [] 0 (some 0)))),
 o1 7 (.mv (iv 2))]
def WP:List SOp :=
 [o1 28 (.faddr 0 (tm 3)),
 o1 29 (.load false 1 (tm 28)),
 o1 30 (.faddr 1 (tm 5)),
 o1 31 (.load false 1 (tm 30)),
 o1 32 (.call 35 [(tm 29),(tm 31)]),
 o1 8 (.mv (tm 32))]
def WF:List SOp :=
 [o1 33 (.mv (tm 8)),
 o1 34 (.bin .lss (tm 33) (iv 0))]
def WE:List SOp :=
 [o1 6 (.mv (.av (.sl [] 0 (some 0)))),
 o1 7 (.mv (iv 17))]
def WD:List SOp :=
 [o1 35 (.faddr 0 (tm 3)),
 o1 36 (.load false 1 (tm 35)),
 o1 37 (.mv (tm 8)),
 o1 38 (.iaddr 4 (tm 36) (tm 37)),
 o1 39 (.load true 4 (tm 38)),
 o1 9 (.alloc [(.str []),(.int .i64 0),(.bool false),(.bool false)]),
 o0 (.store 4 (tm 9) (tm 39))]
def WC:List SOp :=
 [o1 40 (.mv (tm 1)),
 o1 41 (.faddr 1 (tm 5)),
 o1 42 (.load false 1 (tm 41)),
 o1 43 (.call 29 [(tm 40),(tm 42)]),
 o1 10 (.mv (tm 43))]
def WB:List SOp :=
 [o1 44 (.faddr 0 (tm 5)),
 o1 45 (.load false 1 (tm 44)),
 o1 46 (.bin .eql (tm 45) (iv 1))]
def WA:List SOp :=
 [o1 47 (.faddr 2 (tm 5)),
 o1 48 (.load false 1 (tm 47)),
 o1 49 (.len false (tm 48)),
 o1 50 (.bin .eql (tm 49) (iv 0)),
 o1 51 (.mv (tm 50)),
 .grp none 51 true
 [og 52 51 true (.mv (tm 10)),
 og 53 51 true (.len false (tm 52)),
 og 54 51 true (.bin .eql (tm 53) (iv 0))]
 55 (tm 54)]
def Xa:List SOp :=
 [o1 6 (.mv (.av (.sl [] 0 (some 0)))),
 o1 7 (.mv (iv 16))]
def W9:List SOp :=
 [o1 56 (.faddr 2 (tm 5)),
 o1 57 (.load false 1 (tm 56)),
 o1 58 (.len false (tm 57)),
 o1 59 (.mv (iv 0))]
def W8:List SOp :=
 [o1 60 (.bin .lss (tm 59) (tm 58))]
def W7:List SOp :=
 [o1 61 (.iaddr 1 (tm 57) (tm 59)),
 o1 62 (.load false 1 (tm 61)),
 o1 12 (.mv (tm 62))]
def W6:List SOp :=
 [o1 64 (.faddr 1 (tm 9)),
 o1 65 (.load false 1 (tm 64)),
 o1 66 (.mv (tm 12)),
 o1 67 (.call 52 [(tm 65),(tm 66)]),
 o1 63 (.mv (tm 67)),
 o1 68 (.extract (tm 63) 0),
 o1 69 (.extract (tm 63) 1),
 o1 13 (.mv (tm 68)),
 o1 14 (.mv (tm 69))]
def W5:List SOp :=
 [o1 70 (.mv (tm 14)),
 o1 71 (.un .not (tm 70))]
def W4:List SOp :=
 [o1 6 (.mv (.av (.sl [] 0 (some 0)))),
 o1 7 (.mv (iv 21))]
def W3:List SOp :=
 [o1 72 (.faddr 1 (tm 9)),
 o1 73 (.load false 1 (tm 72)),
 o1 74 (.mv (tm 10)),
 o1 75 (.mv (tm 13)),
 o1 76 (.call 57 [(tm 73),(tm 74),(tm 75)]),
 o1 77 (.un .not (tm 76))]
def W2:List SOp :=
 [o1 6 (.mv (.av (.sl [] 0 (some 0)))),
 o1 7 (.mv (iv 16))]
def W1:List SOp :=
 [o1 15 (.mv (.av (.sl [] 0 (some 0))))]
def WZ:List SOp :=
 [o1 78 (.mv (tm 10)),
 o1 79 (.len false (tm 78)),
 o1 80 (.mv (iv 0))]
def WY:List SOp :=
 [o1 81 (.bin .lss (tm 80) (tm 79))]
def WX:List SOp :=
 [o1 82 (.iaddr 1 (tm 78) (tm 80)),
 o1 83 (.load false 1 (tm 82)),
 o1 17 (.mv (tm 83))]
def WW:List SOp :=
 [o1 84 (.faddr 1 (tm 9)),
 o1 85 (.load false 1 (tm 84)),
 o1 86 (.mv (tm 17)),
 o1 87 (.call 53 [(tm 85),(tm 86)]),
 o1 88 (.mv (tm 13)),
 o1 89 (.bin .neq (tm 87) (tm 88))]
def WV:List SOp :=
 [o1 90 (.mv (tm 15)),
 o1 91 (.mv (tm 17)),
 o1 92 (.bslice false 1 1 [(.str [])] [(0,(1,(tm 91)))]),
 o1 93 (.app 1 1 16 [(.str [])] (tm 90) (tm 92)),
 o1 15 (.mv (tm 93))]
def WU:List SOp :=
 [o1 94 (.bin .add (tm 80) (iv 1)),
 o1 80 (.mv (tm 94))]
def WT:List SOp :=
 [o1 95 (.mv (tm 15)),
 o1 10 (.mv (tm 95))]
def WS:List SOp :=
 [o1 96 (.bin .add (tm 59) (iv 1)),
 o1 59 (.mv (tm 96))]
def WR:List SOp :=
 [o1 97 (.faddr 2 (tm 5)),
 o1 98 (.load false 1 (tm 97)),
 o1 99 (.len false (tm 98)),
 o1 100 (.bin .eql (tm 99) (iv 0))]
def WQ:List SOp :=
 [o1 10 (.mv (.av (.sl [] 0 (some 0))))]
def WO:List SOp :=
 [o1 101 (.mv (tm 1)),
 o1 102 (.faddr 0 (tm 9)),
 o1 103 (.load false 1 (tm 102)),
 o1 104 (.mv (tm 10)),
 o1 105 (.call 37 [(tm 101),(tm 103),(tm 104)]),
 o1 6 (.mv (tm 105)),
 o1 7 (.mv (iv 0))]
def WN:List SOp :=
 [o1 106 (.faddr 0 (tm 5)),
 o1 107 (.load false 1 (tm 106)),
 o1 108 (.bin .eql (tm 107) (iv 0)),
 o1 109 (.mv (tm 108)),
 .grp none 109 true
 [og 110 109 true (.faddr 2 (tm 5)),
 og 111 109 true (.load false 1 (tm 110)),
 og 112 109 true (.len false (tm 111)),
 og 113 109 true (.bin .eql (tm 112) (iv 0))]
 114 (tm 113)]
def WM:List SOp :=
 [o1 6 (.mv (.av (.sl [] 0 (some 0)))),
 o1 7 (.mv (iv 2))]
def WL:List SOp :=
 [o1 115 (.faddr 0 (tm 5)),
 o1 116 (.load false 1 (tm 115)),
 o1 117 (.bin .eql (tm 116) (iv 2))]
def WK:List SOp :=
 [o1 10 (.mv (.av (.sl [] 0 (some 0))))]
def WJ:List SOp :=
 [o1 119 (.load true 4 (tm 9)),
 o1 120 (.mv (tm 10)),
 o1 121 (.faddr 2 (tm 5)),
 o1 122 (.load false 1 (tm 121)),
 o1 123 (.call 36 [(tm 119),(tm 120),(tm 122)]),
 o1 118 (.mv (tm 123)),
 o1 124 (.extract (tm 118) 0),
 o1 125 (.extract (tm 118) 1),
 o1 18 (.mv (tm 124)),
 o1 19 (.mv (tm 125))]
def WI:List SOp :=
 [o1 126 (.mv (tm 19)),
 o1 127 (.bin .neq (tm 126) (iv 0))]
def WH:List SOp :=
 [o1 128 (.mv (tm 19)),
 o1 6 (.mv (.av (.sl [] 0 (some 0)))),
 o1 7 (.mv (tm 128))]
def WG:List SOp :=
 [o1 129 (.mv (tm 1)),
 o1 130 (.faddr 0 (tm 9)),
 o1 131 (.load false 1 (tm 130)),
 o1 132 (.mv (tm 18)),
 o1 133 (.call 37 [(tm 129),(tm 131),(tm 132)]),
 o1 6 (.mv (tm 133)),
 o1 7 (.mv (iv 0))]
def aaX:aU:=⟨134,(.seq (.sreg Xc [])
 (.seq (.seq (.sreg Xb [true,false,false,false,false])
 (.cond (tm 27) (.seq (.sreg W0 [])
 .ret)
 .skip))
 (.seq (.sreg WP [true,false,false,false,false,false])
 (.seq (.seq (.sreg WF [true,false])
 (.cond (tm 34) (.seq (.sreg WE [])
 .ret)
 .skip))
 (.seq (.sreg WD [true,false,false,false,false,false])
 (.seq (.sreg WC [true,false,false,false,false])
 (.seq (.seq (.sreg WB [true,false,false])
 (.cond (tm 46) (.seq (.seq (.sreg WA [true,false,false,false,false,false])
 (.cond (tm 55) (.seq (.sreg Xa [])
 .ret)
 .skip))
 (.seq (.seq (.sreg W9 [true,true,true,false])
 (.block 0 (.loop (.seq (.sreg W8 [])
 (.seq (.cond (tm 60) .skip
 (.exit 0))
 (.seq (.block 1 (.seq (.sreg W7 [true,false,false])
 (.seq (.sreg W6 [true,true,false,false,false,false,false,false,false])
 (.seq (.seq (.sreg W5 [true,false])
 (.cond (tm 71) (.seq (.sreg W4 [])
 .ret)
 .skip))
 (.seq (.seq (.sreg W3 [true,false,false,false,false,false])
 (.cond (tm 77) (.seq (.sreg W2 [])
 .ret)
 .skip))
 (.seq (.sreg W1 [])
 (.seq (.seq (.sreg WZ [])
 (.block 2 (.loop (.seq (.sreg WY [])
 (.seq (.cond (tm 81) .skip
 (.exit 2))
 (.seq (.block 3 (.seq (.sreg WX [true,false,false])
 (.seq (.sreg WW [true,false,false,false,false,false])
 (.cond (tm 89) (.sreg WV [true,false,false,false,false])
 .skip))))
 (.sreg WU [true,false])))))))
 (.sreg WT [true,false]))))))))
 (.sreg WS [true,false])))))))
 (.seq (.seq (.sreg WR [true,false,false,false])
 (.cond (tm 100) (.sreg WQ [])
 .skip))
 (.seq (.sreg WO [true,true,false,false,false,false,false])
 .ret))))
 .skip))
 (.seq (.seq (.sreg WN [true,false,false,false,false])
 (.cond (tm 114) (.seq (.sreg WM [])
 .ret)
 .skip))
 (.seq (.seq (.sreg WL [true,false,false])
 (.cond (tm 117) (.sreg WK [])
 .skip))
 (.seq (.sreg WJ [true,true,false,false,false,false,false,false,false,false])
 (.seq (.seq (.sreg WI [true,false])
 (.cond (tm 127) (.seq (.sreg WH [true,true,false])
 .ret)
 .skip))
 (.seq (.sreg WG [true,true,false,false,false,false,false])
 .ret)))))))))))),[(.tmp 6),(.tmp 7)]⟩
attribute [push_cast] Xc Xb W0 WP WF WE WD WC WB WA Xa W9 W8 W7 W6 W5 W4 W3 W2 W1 WZ WY WX WW WV WU WT WS WR WQ WO WN WM WL WK WJ WI WH WG
theorem aaW:aW Tryz.prog (fun _ _=>1) 42=some aaX.raw:=by kernel_rfl
def XJ:List SOp :=
 [o1 3 (.box (tm 0)),
 o1 6 (.mv (.av (.sl [] 0 (some 0)))),
 o1 7 (.mv (iv 0))]
def XI:List SOp :=
 [o1 13 (.mv (tm 1)),
 o1 14 (.call 23 [(tm 13)]),
 o1 8 (.mv (tm 14))]
def XG:List SOp :=
 [o1 15 (.mv (tm 2)),
 o1 16 (.len false (tm 15)),
 o1 17 (.mv (iv 0))]
def XF:List SOp :=
 [o1 18 (.bin .lss (tm 17) (tm 16))]
def XE:List SOp :=
 [o1 19 (.iaddr 3 (tm 15) (tm 17)),
 o1 20 (.load true 3 (tm 19)),
 o1 10 (.alloc [(.int .i64 0),(.str []),(.sl [] 0 (some 0))]),
 o0 (.store 3 (tm 10) (tm 20))]
def XD:List SOp :=
 [o1 22 (.load true 2 (tm 3)),
 o1 23 (.mv (tm 8)),
 o1 24 (.load true 3 (tm 10)),
 o1 25 (.call 42 [(tm 22),(tm 23),(tm 24)]),
 o1 21 (.mv (tm 25)),
 o1 26 (.extract (tm 21) 0),
 o1 27 (.extract (tm 21) 1),
 o1 11 (.mv (tm 26)),
 o1 12 (.mv (tm 27))]
def XC:List SOp :=
 [o1 28 (.mv (tm 12)),
 o1 29 (.bin .neq (tm 28) (iv 0))]
def XB:List SOp :=
 [o1 30 (.mv (tm 12)),
 o1 6 (.mv (.av (.sl [] 0 (some 0)))),
 o1 7 (.mv (tm 30))]
def XA:List SOp :=
 [o1 31 (.mv (tm 11)),
 o1 8 (.mv (tm 31))]
def Xz:List SOp :=
 [o1 32 (.bin .add (tm 17) (iv 1)),
 o1 17 (.mv (tm 32))]
def XH:List SOp :=
 [o1 33 (.mv (tm 8)),
 o1 6 (.mv (tm 33)),
 o1 7 (.mv (iv 0))]
def aa3:aU:=⟨34,(.seq (.sreg XJ [])
 (.seq (.sreg XI [true,false,false])
 (.seq (.seq (.sreg XG [])
 (.block 0 (.loop (.seq (.sreg XF [])
 (.seq (.cond (tm 18) .skip
 (.exit 0))
 (.seq (.block 1 (.seq (.sreg XE [true,false,false])
 (.seq (.sreg XD [true,true,false,false,false,false,false,false,false])
 (.seq (.seq (.sreg XC [true,false])
 (.cond (tm 29) (.seq (.sreg XB [true,true,false])
 .ret)
 .skip))
 (.sreg XA [true,false])))))
 (.sreg Xz [true,false])))))))
 (.seq (.sreg XH [true,true,false])
 .ret)))),[(.tmp 6),(.tmp 7)]⟩
attribute [push_cast] XJ XI XG XF XE XD XC XB XA Xz XH
theorem aa2:aW Tryz.prog (fun _ _=>1) 18=some aa3.raw:=by kernel_rfl
def YC:List SOp :=
 [o1 2 (.box (tm 0)),
 o1 3 (.box (tm 1)),
 o1 4 (.mv (.av (.bool false)))]
def YB:List SOp :=
 [o1 12 (.load true 2 (tm 2)),
 o1 13 (.call 20 [(tm 12)]),
 o1 14 (.un .not (tm 13)),
 o1 15 (.mv (tm 14)),
 .grp none 15 false
 [og 16 15 false (.faddr 0 (tm 3)),
 og 17 15 false (.load false 1 (tm 16)),
 og 18 15 false (.call 9 [(tm 17)]),
 og 19 15 false (.un .not (tm 18))]
 20 (tm 19),
 o1 21 (.mv (tm 20)),
 .grp none 21 false
 [og 22 21 false (.faddr 1 (tm 3)),
 og 23 21 false (.load false 1 (tm 22)),
 og 24 21 false (.call 21 [(tm 23)]),
 og 25 21 false (.un .not (tm 24))]
 26 (tm 25)]
def YA:List SOp :=
 [o1 27 (.call 22 []),
 o1 4 (.mv (tm 27))]
def Yz:List SOp :=
 [o1 29 (.load true 2 (tm 2)),
 o1 30 (.faddr 0 (tm 3)),
 o1 31 (.load false 1 (tm 30)),
 o1 32 (.call 11 [(tm 29),(tm 31)]),
 o1 28 (.mv (tm 32)),
 o1 33 (.extract (tm 28) 0),
 o1 34 (.extract (tm 28) 1),
 o1 5 (.mv (tm 33)),
 o1 6 (.mv (tm 34))]
def Yy:List SOp :=
 [o1 35 (.mv (tm 6)),
 o1 36 (.bin .neq (tm 35) (iv 0))]
def Yx:List SOp :=
 [o1 37 (.call 22 []),
 o1 4 (.mv (tm 37))]
def Yw:List SOp :=
 [o1 38 (.mv (tm 5)),
 o1 39 (.call 23 [(tm 38)]),
 o1 7 (.mv (tm 39))]
def Yv:List SOp :=
 [o1 41 (.load true 2 (tm 2)),
 o1 42 (.mv (tm 5)),
 o1 43 (.faddr 1 (tm 3)),
 o1 44 (.load false 1 (tm 43)),
 o1 45 (.call 24 [(tm 41),(tm 42),(tm 44)]),
 o1 40 (.mv (tm 45)),
 o1 46 (.extract (tm 40) 0),
 o1 47 (.extract (tm 40) 1),
 o1 8 (.mv (tm 46)),
 o1 9 (.mv (tm 47))]
def Yu:List SOp :=
 [o1 49 (.load true 2 (tm 2)),
 o1 50 (.mv (tm 7)),
 o1 51 (.faddr 1 (tm 3)),
 o1 52 (.load false 1 (tm 51)),
 o1 53 (.call 18 [(tm 49),(tm 50),(tm 52)]),
 o1 48 (.mv (tm 53)),
 o1 54 (.extract (tm 48) 0),
 o1 55 (.extract (tm 48) 1),
 o1 10 (.mv (tm 54)),
 o1 11 (.mv (tm 55))]
def Yt:List SOp :=
 [o1 56 (.call 22 []),
 o1 57 (.mv (tm 56)),
 .grp none 57 true
 [og 58 57 true (.mv (tm 9)),
 og 59 57 true (.mv (tm 11)),
 og 60 57 true (.bin .eql (tm 58) (tm 59))]
 61 (tm 60),
 o1 62 (.mv (tm 61)),
 .grp none 62 true
 [og 63 62 true (.mv (tm 8)),
 og 64 62 true (.mv (tm 10)),
 og 65 62 true (.call 25 [(tm 63),(tm 64)])]
 66 (tm 65),
 o1 67 (.mv (tm 66)),
 .grp none 67 true
 [og 68 67 true (.mv (tm 5)),
 og 69 67 true (.mv (tm 7)),
 og 70 67 true (.call 25 [(tm 68),(tm 69)])]
 71 (tm 70),
 o1 4 (.mv (tm 71))]
def abd:aU:=⟨72,(.seq (.sreg YC [])
 (.seq (.seq (.sreg YB [true,false,false,false,false,false,false])
 (.cond (tm 26) (.seq (.sreg YA [true,false])
 .ret)
 .skip))
 (.seq (.sreg Yz [true,true,false,false,false,false,false,false,false])
 (.seq (.seq (.sreg Yy [true,false])
 (.cond (tm 36) (.seq (.sreg Yx [true,false])
 .ret)
 .skip))
 (.seq (.sreg Yw [true,false,false])
 (.seq (.sreg Yv [true,true,false,false,false,false,false,false,false,false])
 (.seq (.sreg Yu [true,true,false,false,false,false,false,false,false,false])
 (.seq (.sreg Yt [true,false,false,false,false,false,false,false])
 .ret)))))))),[(.tmp 4)]⟩
attribute [push_cast] YC YB YA Yz Yy Yx Yw Yv Yu Yt
theorem abc:aW Tryz.prog (fun _ _=>1) 5=some abd.raw:=by kernel_rfl
set_option maxHeartbeats 8000000
set_option maxRecDepth 100000
theorem Q7 {l:List Atr} {cap:Option Nat} (hl:l.length≤1000000) (hz:∀ a∈l,a.2.length≤1000000) {L:List Blk} {K:AV→List Blk→Prop} (h:K (.sl (a7 l) l.length none) L) :
   af Tryz.prog 23 [.sl (a7 l) l.length cap] L K:=by
 replace h:=hid h
 refine ai Eu (by simp [o6]) ?_
 simp only [o6,ar]
 refine wk ?_
 refine dr (l:=[]) (n:=0) 3 2 rfl (Nat.zero_mul 2).symm ?_
 refine am (fun m T' L'=>∃ (k:Nat) (C:List AV) (X:List Blk),m=l.length - k∧k≤l.length∧C=a7 (l.take k)∧T'=[(8,.int .i64 (k:Int)),(7,.int .i64 l.length),(6,.sl (a7 l) l.length cap),(3,.gsl C k L.length 2)]∧L'=L++(.spare k 2::X)) (CutS (b:=by simp)) ⟨0,[],[],rfl,Nat.zero_le _,rfl,rfl,rfl⟩ ?_
 rintro _ _ _ ⟨k,C,X,rfl,hk,hC,rfl,rfl⟩
 by_cases hlt:k<l.length
 · have g1:(k:Int)<(l.length:Int):=by omega
   have g2:IntKind.i64.wrap ((k:Int)+1)=(k:Int)+1:=ab (by omega) (by omega)
   have e3:=iW hlt
   have e4:k * 2+2≤(a7 l).length:=by rw [im];omega
   obtain ⟨⟨nm,vs⟩,ha⟩:∃ a,l.getD k ([],[])=a:=⟨_,rfl⟩
   have htk:a7 (l.take (k+1))=a7 (l.take k)++[.str nm,.sl (vs.map AV.str) vs.length none]:=by
     rw [List.take_succ_eq_append_getElem hlt,CK,show l[k]=(nm,vs) by rw [← ha];simp [hlt]]
     rfl
   have hvs:=hz (nm,vs) (by rw [← ha];simp [hlt])
   simp only at hvs
   rw [ha] at e3
   simp only [atA] at e3
   have e0:AV.frzL (vs.map AV.str)=vs.map AV.str:=eK vs
   replace htk:=hid htk
   replace hC:=hid hC
   clear ha hz
   refine wk ?_
   exact aj _ _ _ (by omega) (CutL (b:=by simp)) ⟨k+1,_,_,rfl,hlt,by rw [htk.out,hC.out],rfl,rfl⟩
 · have hke:k=l.length:=by omega
   subst hke
   have g1:¬ (l.length:Int)<(l.length:Int):=by omega
   rw [List.take_length] at hC
   subst hC
   have e0:=CJ l
   refine wk ?_
   refine bB ?_
   simp only [AV.frz,e0]
   exact ad (by simp only [AV.refs,oz]) h.out
set_option maxHeartbeats 8000000
set_option maxRecDepth 100000
theorem NR {ts:List Typ} {l:List Atr} {m:Mdf} (hts:Ql ts) (h:∀ a∈l,a6 a.1):∀ a∈(ZW ts l m).1,a6 a.1:=by
 have set:∀ (n:List UInt8) (us:List (List UInt8)) (d:Bool),a6 n→∀ a∈fp n us d l,a6 a.1:=fun n us d hn a ha=>by
   rcases AP ha with e|e
   · rw [e];exact hn
   · exact h a e
 have nil:∀ a∈([]:List Atr),a6 a.1:=fun a ha=>by cases ha
 unfold ZW
 split
 · exact nil
 rcases hty:gq ts m.2.1 with _|ty
 · exact nil
 have htr:=hts.2.1 ty (CO hty).1
 simp only
 split
 · split
   · exact nil
   · split
     · exact nil
     · exact set _ _ _ htr
 · split
   · exact nil
   · obtain ⟨was,hwas⟩:∃ w,(if m.1=2 then [] else eB l m.2.1)=w:=⟨_,rfl⟩
     rw [hwas]
     split
     · exact nil
     · exact set _ _ _ htr
theorem Oc {ts:List Typ} {capT:Option Nat} {c2:List AV} {n2:Nat} {cap2:Option Nat} {l:List Atr} {m:Mdf} {cap:Option Nat} (hts:Ql ts) (hl:l.length≤1000000) (hz:∀ a∈l,a6 a.1∧a.2.length+m.2.2.length≤1000000) (hvs:m.2.2.length≤1000000) (hn:a6 m.2.1)
   {R:List Atr×Int} (hR:ZW ts l m=R) {L:List Blk} {K:AV→List Blk→Prop} (h:K (.tup [.sl (a7 R.1) R.1.length none,.int .i64 R.2]) L) :
   af Tryz.prog 42 [.agg [.sl (b9 ts) ts.length capT,.sl c2 n2 cap2],.sl (a7 l) l.length cap,.agg (mdC m)] L K:=by
 obtain ⟨o,n,vs⟩:=m
 simp only at hz hvs hn
 simp only [mdC]
 obtain ⟨sC,hsC⟩:∃ s,AV.sl c2 n2 cap2=s:=⟨_,rfl⟩
 rw [hsC]
 clear hsC
 replace h:=hid h
 replace hz:=hid hz
 refine ai aaW (by simp [aaX]) ?_
 simp only [aaX,ar]
 unfold ZW at hR
 by_cases ho:o<0∨2<o
 · have gg:(decide (o<0) || decide (2<o))=true:=by
     rcases ho with e|e
     · rw [decide_eq_true e,Bool.true_or]
     · rw [decide_eq_true e,Bool.or_true]
   rw [if_pos ho] at hR
   have h':=h.out
   rw [← hR] at h'
   replace h':=hid h'
   clear h hR ho
   refine wk ?_
   exact bB (ad rfl h'.out)
 have gg:(decide (o<0) || decide (2<o))=false:=by
   rw [decide_eq_false (fun e=>ho (.inl e)),decide_eq_false (fun e=>ho (.inr e))];rfl
 rw [if_neg ho] at hR
 simp only at hR
 replace hR:=hid hR
 refine wk ?_
 refine VP hts.1 hts.2.1 hn (fun hty=>?_) (fun t ht hty=>?_)
 · have hR2:=hR.out
   rw [hty] at hR2
   simp only at hR2
   have h':=h.out
   rw [← hR2] at h'
   replace h':=hid h'
   clear hR hR2 hty h
   refine sk ?_
   refine wk ?_
   exact bB (ad rfl h'.out)
 have hR2:=hR.out
 rw [hty] at hR2
 simp only at hR2
 have e5:=iQ ht
 have e6:t * 4+4≤(b9 ts).length:=by rw [gG];omega
 have g3:¬ (t:Int)<0:=by omega
 have g4:(t:Int)<(ts.length:Int):=by omega
 have htn:=CO hty
 obtain ⟨ty,hte⟩:∃ ty,ts.getD t fW=ty:=⟨_,rfl⟩
 rw [hte] at e5 htn hR2
 simp only [tyC] at e5
 have htr:=hts.2.1 ty htn.1
 obtain ⟨V,hV⟩:∃ V,eB l n=V:=⟨_,rfl⟩
 have hVl:V.length+vs.length≤1000000:=by
   by_cases hl0:l=[]
   · rw [← hV,hl0];simp [eB];omega
   · have:=JH (l:=l) (n:=n) (m:=1000000 - vs.length) fun a ha=>by have:=(hz.out a ha).2;omega
     rw [hV] at this;omega
 rw [hV] at hR2
 have kk1:Hid (∀ {L:List Blk} {K:AV→List Blk→Prop},K (.sl (V.map AV.str) V.length none) L→af Tryz.prog 29 [.sl (a7 l) l.length cap,.str n] L K):=hid fun q=>Lz hl (fun a ha=>⟨(hz.out a ha).1,by have:=(hz.out a ha).2;omega⟩) hn (by rw [hV];exact q)
 have hset:∀ us:List (List UInt8),∀ cu:Option Nat,∀ {L:List Blk} {K:AV→List Blk→Prop},K (.sl (a7 (fp ty.1 us us.isEmpty l)) (fp ty.1 us us.isEmpty l).length none) L→af Tryz.prog 37 [.sl (a7 l) l.length cap,.str ty.1,.sl (us.map AV.str) us.length cu] L K:=fun us cu {L K} q=>Uc hl (fun a ha=>⟨(hz.out a ha).1,by have:=(hz.out a ha).2;omega⟩) htr q
 replace hset:=@hid _ @hset
 replace hts:=hid hts
 clear hR hV hty htn hte
 by_cases h1:o=1
 · subst h1
   rw [if_pos rfl] at hR2
   by_cases hne:vs=[]∧V=[]
   · rw [if_pos hne] at hR2
     obtain ⟨rfl,rfl⟩:=hne
     have h':=h.out
     rw [← hR2] at h'
     replace h':=hid h'
     clear hR2 h
     refine sk ?_
     refine wk ?_
     exact bB (ad rfl h'.out)
   rw [if_neg hne] at hR2
   have gv:(decide ((vs.length:Int)=0) && decide ((V.length:Int)=0))=false:=by
     rw [Bool.and_eq_false_iff]
     by_cases e:vs=[]
     · right
       have:V≠[]:=fun e2=>hne ⟨e,e2⟩
       rw [decide_eq_false_iff_not]
       intro e3
       exact this (List.length_eq_zero_iff.1 (by omega))
     · left
       rw [decide_eq_false_iff_not]
       intro e3
       exact e (List.length_eq_zero_iff.1 (by omega))
   obtain ⟨D,hD⟩:∃ D,aaI ty.2.1 V vs=D:=⟨_,rfl⟩
   rw [hD] at hR2
   replace hD:=hid hD
   replace hR2:=hid hR2
   clear hne
   refine sk ?_
   refine wk ?_
   obtain ⟨mC,hmC⟩:∃ b,Blk.cells [.int .i64 1,.str n,.sl (vs.map AV.str) vs.length none]=b:=⟨_,rfl⟩
   obtain ⟨tC,htC⟩:∃ b,Blk.cells [.str ty.1,.int .i64 ty.2.1,.bool ty.2.2.1,.bool ty.2.2.2]=b:=⟨_,rfl⟩
   obtain ⟨sB,hsB⟩:∃ b,Blk.cells [.sl (b9 ts) ts.length capT,sC]=b:=⟨_,rfl⟩
   refine am (fun m T' L'=>∃ (i:Nat) (u:List (List UInt8)) (cu:Option Nat) (X:List Blk),m=vs.length - i∧i≤vs.length∧u.length≤V.length∧Hid (aaI ty.2.1 u (vs.drop i)=D)∧T'=[(59,.int .i64 (i:Int)),(58,.int .i64 vs.length),(57,.sl (vs.map AV.str) vs.length none),(10,.sl (u.map AV.str) u.length cu),(9,.ptr (L.length+2) 0),(5,.ptr (L.length+1) 0),(1,.sl (a7 l) l.length cap)]∧L'=L++(sB::mC::tC::X)) (CutS (b:=by simp)) ⟨0,V,none,[],rfl,Nat.zero_le _,Nat.le_refl _,hid (by simpa using hD.out),rfl,by rw [← hmC,← htC,← hsB]⟩ ?_
   rintro _ _ _ ⟨i,u,cu,X,rfl,hi,hul,hI,rfl,rfl⟩
   subst hmC htC hsB
   by_cases hlt:i<vs.length
   rotate_left
   · have hke:i=vs.length:=by omega
     subst hke
     have q1:¬ (vs.length:Int)<(vs.length:Int):=by omega
     have hI2:=hI.out
     rw [List.drop_length,aaI] at hI2
     have hR3:=hR2.out
     rw [← hI2,if_neg (by simp)] at hR3
     simp only at hR3
     by_cases hvn:vs=[]
     · rw [if_pos hvn,if_pos hvn] at hR3
       have h':=h.out
       rw [← hR3] at h'
       replace h':=hid h'
       have kk1:=@hid _ (fun L K=>hset.out [] (some 0) (L:=L) (K:=K))
       simp only [List.map_nil,List.length_nil,List.isEmpty_nil] at kk1
       subst hvn
       clear h hset hR2 hR3 hI hI2 hD
       refine wk ?_
       refine bB (ad ?_ ?_)
       · simp only [AV.frz,AV.frzL,CJ,AV.refs,AV.refsL,oz];rfl
       · simp only [AV.frz,AV.frzL,CJ];exact h'.out
     · rw [if_neg hvn,if_neg hvn] at hR3
       have q2:¬ (vs.length:Int)=0:=fun e=>hvn (List.length_eq_zero_iff.1 (by omega))
       have h':=h.out
       rw [← hR3] at h'
       replace h':=hid h'
       have kk1:=@hid _ (fun L K=>hset.out u cu (L:=L) (K:=K))
       clear h hset hR2 hR3 hI hI2 hD hvn
       refine wk ?_
       refine bB (ad ?_ ?_)
       · simp only [AV.frz,AV.frzL,CJ,AV.refs,AV.refsL,oz];rfl
       · simp only [AV.frz,AV.frzL,CJ];exact h'.out
   have q1:(i:Int)<(vs.length:Int):=by omega
   have q2:IntKind.i64.wrap ((i:Int)+1)=(i:Int)+1:=ab (by omega) (by omega)
   obtain ⟨v,hv⟩:∃ v,vs.getD i []=v:=⟨_,rfl⟩
   have q3:(vs.map AV.str).getD i .undef=.str v:=by rw [← hv];simp [hlt]
   have hdr:vs.drop i=v::vs.drop (i+1):=by rw [List.drop_eq_getElem_cons hlt,← hv];simp [hlt]
   have hI2:=hI.out
   rw [hdr] at hI2
   have hu1:u.length≤1000000:=by omega
   clear hv hdr hI hD
   refine wk ?_
   refine DC ?_
   rcases hn:eT ty.2.1 v with _|nv
   · rw [NE hn] at hI2
     have hR3:=hR2.out
     rw [← hI2,if_pos (by simp)] at hR3
     have h':=h.out
     rw [← hR3] at h'
     replace h':=hid h'
     simp only [sP]
     clear hI2 hn hR2 hR3 h
     refine sk ?_
     refine wk ?_
     exact bB (ad rfl h'.out)
   rw [ND hn] at hI2
   simp only [sP]
   rcases hb:inM ty.2.1 u nv with _|_
   · rw [if_pos hb] at hI2
     have hR3:=hR2.out
     rw [← hI2,if_pos (by simp)] at hR3
     have h':=h.out
     rw [← hR3] at h'
     replace h':=hid h'
     clear hI2 hn hR2 hR3 h
     refine sk ?_
     have kk1:=@hid _ (fun L K=>Vq (syn:=ty.2.1) (n:=nv) (cap:=cu) hu1 (L:=L) (K:=K))
     refine wk ?_
     exact bB (ad rfl h'.out)
   rw [if_neg (by rw [hb];simp)] at hI2
   replace hI2:=hid hI2
   clear hn
   refine sk ?_
   have kk1:=@hid _ (fun L K=>Vq (syn:=ty.2.1) (n:=nv) (cap:=cu) hu1 (L:=L) (K:=K))
   refine wk ?_
   clear kk1 hb
   obtain ⟨F,hF⟩:∃ F,u.filter (fun x=>decide (cx ty.2.1 x≠nv))=F:=⟨_,rfl⟩
   rw [hF] at hI2
   have hFl:F.length≤u.length:=by rw [← hF];exact List.length_filter_le _ _
   replace hF:=hid hF
   refine dr (l:=[]) (n:=0) 15 1 rfl (Nat.zero_mul 1).symm ?_
   refine am (fun m T' L'=>∃ (j:Nat) (C:List AV) (z:Nat),m=u.length - j∧j≤u.length∧z≤j∧Hid (C=((u.take j).filter (fun x=>decide (cx ty.2.1 x≠nv))).map AV.str∧z=((u.take j).filter (fun x=>decide (cx ty.2.1 x≠nv))).length)∧T'=[(80,.int .i64 (j:Int)),(79,.int .i64 u.length),(78,.sl (u.map AV.str) u.length cu),(15,.gsl C z (L.length+(X.length+3)) 1),(13,.str nv),(59,.int .i64 (i:Int)),(58,.int .i64 vs.length),(57,.sl (vs.map AV.str) vs.length none),(9,.ptr (L.length+2) 0),(5,.ptr (L.length+1) 0),(1,.sl (a7 l) l.length cap)]∧L'=L++(Blk.cells [.sl (b9 ts) ts.length capT,sC]::Blk.cells [.int .i64 1,.str n,.sl (vs.map AV.str) vs.length none]::Blk.cells [.str ty.1,.int .i64 ty.2.1,.bool ty.2.2.1,.bool ty.2.2.2]::(X++[.spare z 1]))) (VI (by repeat' first|exact Vz|refine Vi rfl rfl ?_|refine U0 rfl rfl ?_|refine Vi rfl (by simp) ?_) (by simp)) ⟨0,[],0,rfl,Nat.zero_le _,Nat.le_refl _,hid ⟨rfl,rfl⟩,rfl,by simp⟩ ?_
   rintro _ _ _ ⟨j,C,z,rfl,hj,hz1,hC,rfl,rfl⟩
   by_cases hjl:j<u.length
   rotate_left
   · have hke:j=u.length:=by omega
     subst hke
     have j1:¬ (u.length:Int)<(u.length:Int):=by omega
     have hC2:=hC.out
     rw [List.take_length,hF.out] at hC2
     clear hC
     refine wk ?_
     obtain ⟨rfl,rfl⟩:=hC2
     exact aj _ _ _ (by omega) (VI (by repeat' first|exact Vz|refine Vi rfl rfl ?_|refine U0 rfl (by simp only [AV.frz,eK]) ?_|refine Vi rfl (congrArg (AV.int _) (by omega)) ?_) (by simp)) ⟨i+1,F,none,_,rfl,hlt,by omega,hI2,rfl,rfl⟩
   have j1:(j:Int)<(u.length:Int):=by omega
   have j2:IntKind.i64.wrap ((j:Int)+1)=(j:Int)+1:=ab (by omega) (by omega)
   obtain ⟨x,hx⟩:∃ x,u.getD j []=x:=⟨_,rfl⟩
   have j3:(u.map AV.str).getD j .undef=.str x:=by rw [← hx];simp [hjl]
   have htk:u.take (j+1)=u.take j++[x]:=by rw [List.take_succ_eq_append_getElem hjl,← hx];simp [hjl]
   clear hx
   have kk1:=@hid _ (fun L K=>z6 (syn:=ty.2.1) (v:=x) (L:=L) (K:=K))
   by_cases he:cx ty.2.1 x=nv
   · have hC2:C=((u.take (j+1)).filter (fun x=>decide (cx ty.2.1 x≠nv))).map AV.str∧z=((u.take (j+1)).filter (fun x=>decide (cx ty.2.1 x≠nv))).length:=by
       rw [htk,List.filter_append,List.filter_cons_of_neg (by simpa using he),List.filter_nil,List.append_nil]
       exact hC.out
     replace hC2:=hid hC2
     clear hC htk
     refine wk ?_
     exact aj _ _ _ (by omega) (CutL (b:=by simp)) ⟨j+1,C,z,rfl,hjl,by omega,hC2,rfl,rfl⟩
   · have hC2:C++[.str x]=((u.take (j+1)).filter (fun x=>decide (cx ty.2.1 x≠nv))).map AV.str∧z+1=((u.take (j+1)).filter (fun x=>decide (cx ty.2.1 x≠nv))).length:=by
       rw [htk,List.filter_append,List.filter_cons_of_pos (by simpa using he),List.filter_nil]
       obtain ⟨e1,e2⟩:=hC.out
       exact ⟨by rw [e1];simp,by rw [e2];simp⟩
     replace hC2:=hid hC2
     clear hC htk
     refine wk ?_
     exact aj _ _ _ (by omega) (CutL (b:=by simp)) ⟨j+1,C++[.str x],z+1,rfl,hjl,by omega,hC2,rfl,rfl⟩
 rw [if_neg h1] at hR2
 by_cases h0:o=0
 · subst h0
   by_cases hv:vs=[]
   · rw [if_pos ⟨rfl,hv⟩] at hR2
     subst hv
     have h':=h.out
     rw [← hR2] at h'
     replace h':=hid h'
     clear hR2 h h1 ho
     refine sk ?_
     refine wk ?_
     exact bB (ad rfl h'.out)
   rw [if_neg (fun e=>hv e.2),if_neg (show ¬ ((0:Int)=2) by decide)] at hR2
   have g5:¬ (vs.length:Int)=0:=fun e=>hv (List.length_eq_zero_iff.1 (by omega))
   obtain ⟨A,hA⟩:∃ A,dp ty.2.1 ty.2.2.1 V vs=A:=⟨_,rfl⟩
   rw [hA] at hR2
   have kk2:Hid (∀ {L:List Blk} {K:AV→List Blk→Prop},K (.tup [.sl (A.1.map AV.str) A.1.length none,.int .i64 A.2]) L→af Tryz.prog 36 [.agg [.str ty.1,.int .i64 ty.2.1,.bool ty.2.2.1,.bool ty.2.2.2],.sl (V.map AV.str) V.length none,.sl (vs.map AV.str) vs.length none] L K):=hid fun q=>Ui (ty:=ty) (by omega) hA q
   have kk3:=@hid _ (fun L K=>hset.out A.1 none (L:=L) (K:=K))
   clear hset hA hv h1 ho
   by_cases hc0:A.2=0
   · rw [if_neg (by rw [hc0];simp)] at hR2
     have h':=h.out
     rw [← hR2] at h'
     replace h':=hid h'
     clear hR2 h
     refine sk ?_
     refine wk ?_
     refine bB (ad ?_ ?_)
     · simp only [AV.frz,AV.frzL,CJ,AV.refs,AV.refsL,oz];rfl
     · simp only [AV.frz,AV.frzL,CJ];exact h'.out
   · rw [if_pos hc0] at hR2
     have h':=h.out
     rw [← hR2] at h'
     replace h':=hid h'
     clear hR2 h
     refine sk ?_
     refine wk ?_
     exact bB (ad rfl h'.out)
 have h2:o=2:=by omega
 subst h2
 rw [if_neg (fun e=>by cases e.1),if_pos rfl] at hR2
 obtain ⟨A,hA⟩:∃ A,dp ty.2.1 ty.2.2.1 [] vs=A:=⟨_,rfl⟩
 rw [hA] at hR2
 have kk2:Hid (∀ {L:List Blk} {K:AV→List Blk→Prop},K (.tup [.sl (A.1.map AV.str) A.1.length none,.int .i64 A.2]) L→af Tryz.prog 36 [.agg [.str ty.1,.int .i64 ty.2.1,.bool ty.2.2.1,.bool ty.2.2.2],.sl [] 0 (some 0),.sl (vs.map AV.str) vs.length none] L K):=hid fun q=>Ui (ty:=ty) (l:=[]) (by simp;omega) hA q
 have kk3:=@hid _ (fun L K=>hset.out A.1 none (L:=L) (K:=K))
 clear hset hA h1 ho h0
 by_cases hc0:A.2=0
 · rw [if_neg (by rw [hc0];simp)] at hR2
   have h':=h.out
   rw [← hR2] at h'
   replace h':=hid h'
   clear hR2 h
   refine sk ?_
   refine wk ?_
   refine bB (ad ?_ ?_)
   · simp only [AV.frz,AV.frzL,CJ,AV.refs,AV.refsL,oz];rfl
   · simp only [AV.frz,AV.frzL,CJ];exact h'.out
 · rw [if_pos hc0] at hR2
   have h':=h.out
   rw [← hR2] at h'
   replace h':=hid h'
   clear hR2 h
   refine sk ?_
   refine wk ?_
   exact bB (ad rfl h'.out)
theorem N3 {ts:List Typ} {capT:Option Nat} {c2:List AV} {n2:Nat} {cap2:Option Nat} {l:List Atr} {ms:List Mdf} {cap capM:Option Nat} (hts:Ql ts) (hl:l.length≤100000) (hv:∀ a∈l,a6 a.1∧a.2.length≤100000) (hm:ms.length≤100) (hmv:∀ m∈ms,a6 m.2.1∧m.2.2.length≤1000)
   {R:List Atr×Int} (hR:aby ts l ms=R) {L:List Blk} {K:AV→List Blk→Prop} (h:K (.tup [.sl (a7 R.1) R.1.length none,.int .i64 R.2]) L) :
   af Tryz.prog 18 [.agg [.sl (b9 ts) ts.length capT,.sl c2 n2 cap2],.sl (a7 l) l.length cap,.sl (bS ms) ms.length capM] L K:=by
 replace h:=hid h
 replace hR:=hid hR
 replace hmv:=hid hmv
 refine ai aa2 (by simp [aa3]) ?_
 simp only [aa3,ar]
 obtain ⟨sC,hsC⟩:∃ s,AV.sl c2 n2 cap2=s:=⟨_,rfl⟩
 rw [hsC]
 have kk1:Hid (∀ {L:List Blk} {K:AV→List Blk→Prop},K (.sl (a7 l) l.length none) L→af Tryz.prog 23 [.sl (a7 l) l.length cap] L K):=hid fun q=>Q7 (by omega) (fun a ha=>by have:=(hv a ha).2;omega) q
 refine wk ?_
 clear kk1
 refine am (fun n T' L'=>∃ (i:Nat) (out:List Atr) (X:List Blk),n=ms.length - i∧i≤ms.length∧out.length≤l.length+i∧Hid (aby ts out (ms.drop i)=R)∧Hid (∀ a∈out,a6 a.1∧a.2.length≤100000+1000 * i)∧T'=[(17,.int .i64 (i:Int)),(16,.int .i64 ms.length),(15,.sl (bS ms) ms.length capM),(8,.sl (a7 out) out.length none),(3,.ptr L.length 0)]∧L'=L++(.cells [.sl (b9 ts) ts.length capT,sC]::X)) (CutS (b:=by simp)) ⟨0,l,[],rfl,Nat.zero_le _,by omega,hid (by simpa using hR.out),hid (by simpa using hv),rfl,by simp⟩ ?_
 clear hv
 rintro _ _ _ ⟨i,out,X,rfl,hi,hol,hI,ho,rfl,rfl⟩
 by_cases hlt:i<ms.length
 · have g1:(i:Int)<(ms.length:Int):=by omega
   have g2:IntKind.i64.wrap ((i:Int)+1)=(i:Int)+1:=ab (by omega) (by omega)
   have e3:=Jc hlt
   have e4:i * 3+3≤(bS ms).length:=by rw [I1];omega
   obtain ⟨m,ha⟩:∃ a,ms.getD i noM=a:=⟨_,rfl⟩
   have hdr:ms.drop i=m::ms.drop (i+1):=by rw [List.drop_eq_getElem_cons hlt,← ha];simp [hlt]
   obtain ⟨hnm,hvs⟩:=hmv.out m (by rw [← ha];simp [hlt])
   rw [ha] at e3
   simp only [mdC] at e3
   have hI2:=hI.out
   rw [hdr,aby] at hI2
   obtain ⟨A,hA⟩:∃ A,ZW ts out m=A:=⟨_,rfl⟩
   have hbd:=Nv (ts:=ts) (l:=out) (m:=m) (B:=100000+1000 * i) (fun a ha=>(ho.out a ha).2)
   have hnr:∀ a∈A.1,a6 a.1:=fun a ha=>by
     rw [← hA] at ha
     exact NR hts (fun b hb=>(ho.out b hb).1) a ha
   rw [hA] at hI2 hbd
   have kk1:Hid (∀ {L:List Blk} {K:AV→List Blk→Prop},K (.tup [.sl (a7 A.1) A.1.length none,.int .i64 A.2]) L→af Tryz.prog 42 [.agg [.sl (b9 ts) ts.length capT,sC],.sl (a7 out) out.length none,.agg [.int .i64 m.1,.str m.2.1,.sl (m.2.2.map AV.str) m.2.2.length none]] L K):=hid fun q=>by
     rw [← hsC]
     exact Oc hts (by omega) (fun a ha=>⟨(ho.out a ha).1,by have:=(ho.out a ha).2;omega⟩) (by omega) hnm hA q
   obtain ⟨A1,A2⟩:=A
   simp only at hI2 kk1 hbd hnr
   replace hbd:=hid hbd
   replace hnr:=hid hnr
   clear hI hdr ha hA
   by_cases hc0:A2=0
   · subst hc0
     rw [if_neg (by simp)] at hI2
     replace hI2:=hid hI2
     have hol':A1.length≤l.length+(i+1):=by have:=hbd.out.1;omega
     have ho':∀ a∈A1,a6 a.1∧a.2.length≤100000+1000 * (i+1):=fun a ha=>⟨hnr.out a ha,by have:=hbd.out.2 a ha;omega⟩
     replace ho':=hid ho'
     refine wk ?_
     exact aj _ _ _ (by omega) (CutL (b:=by simp)) ⟨i+1,A1,_,rfl,hlt,hol',hI2,ho',rfl,rfl⟩
   · rw [if_pos hc0] at hI2
     have h':=h.out
     rw [← hI2] at h'
     replace h':=hid h'
     clear hI2
     refine wk ?_
     exact bB (ad rfl h'.out)
 · have hke:i=ms.length:=by omega
   subst hke
   have g1:¬ (ms.length:Int)<(ms.length:Int):=by omega
   have hI2:=hI.out
   rw [List.drop_length,aby] at hI2
   have h':=h.out
   rw [← hI2] at h'
   replace h':=hid h'
   clear hI hI2 hR
   have e0:=CJ out
   refine wk ?_
   refine bB ?_
   simp only [AV.frz,AV.frzL,e0]
   exact ad (by simp only [AV.refs,AV.refsL,oz];rfl) h'.out
set_option maxHeartbeats 8000000
set_option maxRecDepth 100000
theorem NY {ts:List Typ} {cs:List Cls} {l:List Atr} {ms:List Mdf} {capT capC cap capM:Option Nat} (hs:U2 ts cs) (hl:VL l) (hm:NZ ms) {L:List Blk} {K:AV→List Blk→Prop} (h:K (.bool true) L) :
   af Tryz.prog 5 [.agg [.sl (b9 ts) ts.length capT,.sl (ft cs) cs.length capC],.agg [.sl (a7 l) l.length cap,.sl (bS ms) ms.length capM]] L K:=by
 replace h:=hid h
 obtain ⟨fb,hfb⟩:∃ b,Pt l=b:=⟨_,rfl⟩
 obtain ⟨fd,hfd⟩:∃ b,NU ms=b:=⟨_,rfl⟩
 have kk1:Hid (∀ {L:List Blk} {K:AV→List Blk→Prop},K (.bool true) L→af Tryz.prog 22 [] L K):=hid fun q=>Mv q
 have kk2:Hid (∀ {L:List Blk} {K:AV→List Blk→Prop},K (.bool fb) L→af Tryz.prog 9 [.sl (a7 l) l.length cap] L K):=hid fun q=>Vt hl.1 (fun a ha=>(hl.2 a ha).2) (by rw [hfb];exact q)
 have kk3:Hid (∀ {L:List Blk} {K:AV→List Blk→Prop},K (.bool fd) L→af Tryz.prog 21 [.sl (bS ms) ms.length capM] L K):=hid fun q=>NT hm (by rw [hfd];exact q)
 refine ai abc (by simp [abd]) ?_
 simp only [abd,ar]
 refine wk ?_
 refine Q1 hs fun b hb=>?_
 cases b with
 | false =>
   refine sk ?_
   refine wk ?_
   exact ad rfl h.out
 | true =>
 have hts:=hb rfl
 clear hb
 cases fb with
 | false =>
   refine sk ?_
   refine wk ?_
   exact ad rfl h.out
 | true =>
 cases fd with
 | false =>
   refine sk ?_
   refine wk ?_
   exact ad rfl h.out
 | true =>
 have hf:=Tg hfb
 have hg:=NL hfd
 clear hfb hfd
 obtain ⟨R,hR⟩:∃ R,wV ts [] l=R:=⟨_,rfl⟩
 have hv:∀ a∈l,a6 a.1∧a.2.length≤9000:=fun a ha=>⟨(hl.2 a ha).1,by have:=(hf.2 a ha).1;omega⟩
 have hR1:R.1.length≤60∧∀ a∈R.1,a.2.length≤3600:=by
   have:=OZ (ts:=ts) (l:=l) (out:=[]) (i:=0) (B:=60) (Nat.le_refl _) (by simp) (fun a ha=>(hf.2 a ha).1)
   rw [hR] at this
   exact ⟨by have:=this.1;omega,fun a ha=>by have:=this.2 a ha;omega⟩
 have hR2:R.2=0→InA ts R.1:=fun e=>by rw [← hR] at e ⊢;exact aad (Z4 ts) e
 replace hl:=hid hl
 replace hm:=hid hm
 refine sk ?_
 refine wk ?_
 refine Ra hts (by omega) hv hR ?_
 clear kk2 kk3 hR
 by_cases h0:R.2=0
 rotate_left
 · clear hR1 hR2 hf hg hv hts
   refine sk ?_
   refine wk ?_
   exact ad rfl h.out
 have hin:=hR2 h0
 have hrr:∀ a∈R.1,a6 a.1:=fun a ha=>(LR hts hin ha).1
 obtain ⟨A,hA⟩:∃ A,aby ts R.1 ms=A:=⟨_,rfl⟩
 have hmv:∀ m∈ms,a6 m.2.1∧m.2.2.length≤1000:=fun m hm'=>⟨(hm.out.2 m hm').1,by have:=hg.2 m hm';omega⟩
 have hA1:A.1.length≤1000000∧∀ a∈A.1,a.2.length≤1000000:=by
   have:=NM (ts:=ts) (l:=R.1) (ms:=ms) (B:=3600) (C:=60) hR1.2 hg.2
   rw [hA] at this
   exact ⟨by have:=this.1;omega,fun a ha=>by have:=this.2 a ha;omega⟩
 have kk2:Hid (∀ {L:List Blk} {K:AV→List Blk→Prop},K (.sl (a7 R.1) R.1.length none) L→af Tryz.prog 23 [.sl (a7 R.1) R.1.length none] L K):=hid fun q=>Q7 (by omega) (fun a ha=>by have:=hR1.2 a ha;omega) q
 have kk3:Hid (∀ {L:List Blk} {K:AV→List Blk→Prop},K (.tup [.sl (a7 A.1) A.1.length none,.int .i64 A.2]) L→af Tryz.prog 24 [.agg [.sl (b9 ts) ts.length capT,.sl (ft cs) cs.length capC],.sl (a7 R.1) R.1.length none,.sl (bS ms) ms.length capM] L K):=hid fun q=>En hts hin (by omega) (fun a ha=>by have:=hR1.2 a ha;omega) (by omega) hmv hA q
 have kk4:Hid (∀ {L:List Blk} {K:AV→List Blk→Prop},K (.tup [.sl (a7 A.1) A.1.length none,.int .i64 A.2]) L→af Tryz.prog 18 [.agg [.sl (b9 ts) ts.length capT,.sl (ft cs) cs.length capC],.sl (a7 R.1) R.1.length none,.sl (bS ms) ms.length capM] L K):=hid fun q=>N3 hts (by omega) (fun a ha=>⟨hrr a ha,by have:=hR1.2 a ha;omega⟩) (by omega) hmv hA q
 have kk5:Hid (∀ {L:List Blk} {K:AV→List Blk→Prop},K (.bool true) L→af Tryz.prog 25 [.sl (a7 A.1) A.1.length none,.sl (a7 A.1) A.1.length none] L K):=hid fun q=>M6 hA1.1 hA1.2 q
 have kk6:Hid (∀ {L:List Blk} {K:AV→List Blk→Prop},K (.bool true) L→af Tryz.prog 25 [.sl (a7 R.1) R.1.length none,.sl (a7 R.1) R.1.length none] L K):=hid fun q=>M6 (by omega) (fun a ha=>by have:=hR1.2 a ha;omega) q
 clear hR1 hR2 hf hg hv hts hin hrr hA hmv hA1
 refine sk ?_
 refine wk ?_
 exact ad rfl h.out
end Go.Proofs.YtohflefnbajajaaGreatDoor.Av
