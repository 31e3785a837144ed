/- Joined texts of the walk, made small by a program. -/
import Derived.Test.YtohflefnbajajaaGreatDoorVP4
import Derived.Test.YtohflefnbajajaaGreatDoorRows
import Derived.KernelRfl
import Derived.Test.YtohflefnbajajaaGreatDoorVE3
import Derived.Test.YtohflefnbajajaaGreatDoorVR3
import Derived.Test.YtohflefnbajajaaGreatDoorVP5
set_option linter.unusedSimpArgs false
set_option linter.unusedVariables false
set_option maxRecDepth 100000
namespace Go.Proofs.YtohflefnbajajaaGreatDoor.Av
open Go
def Bh:List SOp :=
 [o1 4 (.mv (iv 0))]
def Bg:List SOp :=
 [o1 6 (.mv (tm 0)),
 o1 7 (.len false (tm 6)),
 o1 8 (.mv (iv 0))]
def Bf:List SOp :=
 [o1 9 (.bin .lss (tm 8) (tm 7))]
def Be:List SOp :=
 [o1 10 (.mv (tm 8)),
 o1 5 (.mv (tm 10))]
def Bd:List SOp :=
 [o1 11 (.mv (tm 0)),
 o1 12 (.mv (tm 5)),
 o1 13 (.iaddr 4 (tm 11) (tm 12)),
 o1 14 (.faddr 0 (tm 13)),
 o1 15 (.load false 1 (tm 14)),
 o1 16 (.call 51 [(tm 15)]),
 o1 17 (.mv (tm 1)),
 o1 18 (.call 51 [(tm 17)]),
 o1 19 (.bin .eql (tm 16) (tm 18))]
def Bc:List SOp :=
 [o1 20 (.mv (tm 5)),
 o1 4 (.mv (tm 20))]
def Bb:List SOp :=
 [o1 21 (.bin .add (tm 8) (iv 1)),
 o1 8 (.mv (tm 21))]
def Ba:List SOp :=
 [o1 4 (.mv (iv (-1)))]
def ju:aU:=⟨22,(.seq (.sreg Bh [])
 (.seq (.seq (.sreg Bg [true,true,false])
 (.block 0 (.loop (.seq (.sreg Bf [])
 (.seq (.cond (tm 9) .skip
 (.exit 0))
 (.seq (.block 1 (.seq (.sreg Be [true,false])
 (.seq (.sreg Bd [true,false,false,false,false,false,false,false,false])
 (.cond (tm 19) (.seq (.sreg Bc [true,false])
 .ret)
 .skip))))
 (.sreg Bb [true,false])))))))
 (.seq (.sreg Ba [])
 .ret))),[(.tmp 4)]⟩
attribute [push_cast] Bh Bg Bf Be Bd Bc Bb Ba
theorem zX:aW Tryz.prog (fun _ _=>1) 35=some ju.raw:=by kernel_rfl
def jZ:List SOp :=
 [o1 4 (.mv (iv 0))]
def jY:List SOp :=
 [o1 6 (.mv (tm 0)),
 o1 7 (.len false (tm 6)),
 o1 8 (.mv (iv 0))]
def jX:List SOp :=
 [o1 9 (.bin .lss (tm 8) (tm 7))]
def jW:List SOp :=
 [o1 10 (.mv (tm 8)),
 o1 5 (.mv (tm 10))]
def jV:List SOp :=
 [o1 11 (.mv (tm 0)),
 o1 12 (.mv (tm 5)),
 o1 13 (.iaddr 5 (tm 11) (tm 12)),
 o1 14 (.faddr 0 (tm 13)),
 o1 15 (.load false 1 (tm 14)),
 o1 16 (.call 51 [(tm 15)]),
 o1 17 (.mv (tm 1)),
 o1 18 (.call 51 [(tm 17)]),
 o1 19 (.bin .eql (tm 16) (tm 18))]
def jU:List SOp :=
 [o1 20 (.mv (tm 5)),
 o1 4 (.mv (tm 20))]
def jT:List SOp :=
 [o1 21 (.bin .add (tm 8) (iv 1)),
 o1 8 (.mv (tm 21))]
def jS:List SOp :=
 [o1 4 (.mv (iv (-1)))]
def ix:aU:=⟨22,(.seq (.sreg jZ [])
 (.seq (.seq (.sreg jY [true,true,false])
 (.block 0 (.loop (.seq (.sreg jX [])
 (.seq (.cond (tm 9) .skip
 (.exit 0))
 (.seq (.block 1 (.seq (.sreg jW [true,false])
 (.seq (.sreg jV [true,false,false,false,false,false,false,false,false])
 (.cond (tm 19) (.seq (.sreg jU [true,false])
 .ret)
 .skip))))
 (.sreg jT [true,false])))))))
 (.seq (.sreg jS [])
 .ret))),[(.tmp 4)]⟩
attribute [push_cast] jZ jY jX jW jV jU jT jS
theorem Ao:aW Tryz.prog (fun _ _=>1) 72=some ix.raw:=by kernel_rfl
def qc:List SOp :=
 [o1 1 (.box (tm 0)),
 o1 2 (.mv (iv 0))]
def qb:List SOp :=
 [o1 11 (.faddr 0 (tm 1)),
 o1 12 (.load false 1 (tm 11)),
 o1 13 (.len false (tm 12)),
 o1 14 (.bin .gtr (tm 13) (iv 128)),
 o1 15 (.mv (tm 14)),
 .grp none 15 false
 [og 16 15 false (.faddr 1 (tm 1)),
 og 17 15 false (.load false 1 (tm 16)),
 og 18 15 false (.len false (tm 17)),
 og 19 15 false (.bin .gtr (tm 18) (iv 128))]
 20 (tm 19)]
def qa:List SOp :=
 [o1 2 (.mv (iv 9))]
def p9:List SOp :=
 [o1 21 (.faddr 0 (tm 1)),
 o1 22 (.load false 1 (tm 21)),
 o1 23 (.len false (tm 22)),
 o1 24 (.mv (iv 0))]
def p8:List SOp :=
 [o1 25 (.bin .lss (tm 24) (tm 23))]
def p7:List SOp :=
 [o1 26 (.mv (tm 24)),
 o1 27 (.iaddr 4 (tm 22) (tm 24)),
 o1 28 (.load true 4 (tm 27)),
 o1 4 (.alloc [(.str []),(.int .i64 0),(.bool false),(.bool false)]),
 o1 3 (.mv (tm 26)),
 o0 (.store 4 (tm 4) (tm 28))]
def p6:List SOp :=
 [o1 29 (.faddr 0 (tm 4)),
 o1 30 (.load false 1 (tm 29)),
 o1 31 (.call 71 [(tm 30)]),
 o1 32 (.un .not (tm 31))]
def p5:List SOp :=
 [o1 2 (.mv (iv 20))]
def p0:List SOp :=
 [o1 33 (.faddr 0 (tm 1)),
 o1 34 (.load false 1 (tm 33)),
 o1 35 (.mv (tm 3)),
 o1 36 (.slV 4 (tm 34) none (some (tm 35)) none),
 o1 37 (.faddr 0 (tm 4)),
 o1 38 (.load false 1 (tm 37)),
 o1 39 (.call 35 [(tm 36),(tm 38)]),
 o1 40 (.bin .geq (tm 39) (iv 0))]
def pZ:List SOp :=
 [o1 2 (.mv (iv 21))]
def ma:List SOp :=
 [o1 41 (.faddr 1 (tm 4)),
 o1 42 (.load false 1 (tm 41)),
 o1 43 (.bin .lss (tm 42) (iv 1)),
 o1 44 (.mv (tm 43)),
 .grp none 44 false
 [og 45 44 false (.faddr 1 (tm 4)),
 og 46 44 false (.load false 1 (tm 45)),
 og 47 44 false (.bin .gtr (tm 46) (iv 8))]
 48 (tm 47)]
def l9:List SOp :=
 [o1 2 (.mv (iv 23))]
def l8:List SOp :=
 [o1 49 (.bin .add (tm 24) (iv 1)),
 o1 24 (.mv (tm 49))]
def l7:List SOp :=
 [o1 50 (.faddr 1 (tm 1)),
 o1 51 (.load false 1 (tm 50)),
 o1 52 (.len false (tm 51)),
 o1 53 (.mv (iv 0))]
def l6:List SOp :=
 [o1 54 (.bin .lss (tm 53) (tm 52))]
def l5:List SOp :=
 [o1 55 (.mv (tm 53)),
 o1 56 (.iaddr 5 (tm 51) (tm 53)),
 o1 57 (.load true 5 (tm 56)),
 o1 6 (.alloc [(.str []),(.str []),(.int .i64 0),(.sl [] 0 (some 0)),(.sl [] 0 (some 0))]),
 o1 5 (.mv (tm 55)),
 o0 (.store 5 (tm 6) (tm 57))]
def l4:List SOp :=
 [o1 58 (.faddr 0 (tm 6)),
 o1 59 (.load false 1 (tm 58)),
 o1 60 (.call 71 [(tm 59)]),
 o1 61 (.un .not (tm 60))]
def l3:List SOp :=
 [o1 2 (.mv (iv 20))]
def lZ:List SOp :=
 [o1 62 (.faddr 1 (tm 1)),
 o1 63 (.load false 1 (tm 62)),
 o1 64 (.mv (tm 5)),
 o1 65 (.slV 5 (tm 63) none (some (tm 64)) none),
 o1 66 (.faddr 0 (tm 6)),
 o1 67 (.load false 1 (tm 66)),
 o1 68 (.call 72 [(tm 65),(tm 67)]),
 o1 69 (.bin .geq (tm 68) (iv 0))]
def lY:List SOp :=
 [o1 2 (.mv (iv 21))]
def lX:List SOp :=
 [o1 70 (.faddr 2 (tm 6)),
 o1 71 (.load false 1 (tm 70)),
 o1 72 (.bin .lss (tm 71) (iv 0)),
 o1 73 (.mv (tm 72)),
 .grp none 73 false
 [og 74 73 false (.faddr 2 (tm 6)),
 og 75 73 false (.load false 1 (tm 74)),
 og 76 73 false (.bin .gtr (tm 75) (iv 2))]
 77 (tm 76)]
def lW:List SOp :=
 [o1 2 (.mv (iv 23))]
def lV:List SOp :=
 [o1 78 (.faddr 1 (tm 1)),
 o1 79 (.load false 1 (tm 78)),
 o1 80 (.mv (tm 5)),
 o1 81 (.slV 5 (tm 79) none (some (tm 80)) none),
 o1 82 (.faddr 1 (tm 6)),
 o1 83 (.load false 1 (tm 82)),
 o1 84 (.call 72 [(tm 81),(tm 83)]),
 o1 7 (.mv (tm 84))]
def lU:List SOp :=
 [o1 85 (.faddr 1 (tm 6)),
 o1 86 (.load false 1 (tm 85)),
 o1 87 (.bin .neq (tm 86) (.av (.str []))),
 o1 88 (.mv (tm 87)),
 .grp none 88 true
 [og 89 88 true (.mv (tm 7)),
 og 90 88 true (.bin .lss (tm 89) (iv 0))]
 91 (tm 90)]
def lT:List SOp :=
 [o1 2 (.mv (iv 22))]
def lS:List SOp :=
 [o1 92 (.faddr 1 (tm 6)),
 o1 93 (.load false 1 (tm 92)),
 o1 94 (.bin .eql (tm 93) (.av (.str []))),
 o1 95 (.mv (tm 94)),
 .grp none 95 true
 [og 96 95 true (.faddr 2 (tm 6)),
 og 97 95 true (.load false 1 (tm 96)),
 og 98 95 true (.bin .neq (tm 97) (iv 0))]
 99 (tm 98),
 o1 100 (.mv (tm 99)),
 .grp none 100 false
 [og 101 100 false (.faddr 1 (tm 6)),
 og 102 100 false (.load false 1 (tm 101)),
 og 103 100 false (.bin .neq (tm 102) (.av (.str []))),
 og 104 100 false (.mv (tm 103)),
 .grp (some (100,false)) 104 true
 [og 105 104 true (.faddr 1 (tm 1)),
 og 106 104 true (.load false 1 (tm 105)),
 og 107 104 true (.mv (tm 7)),
 og 108 104 true (.iaddr 5 (tm 106) (tm 107)),
 og 109 104 true (.faddr 2 (tm 108)),
 og 110 104 true (.load false 1 (tm 109)),
 og 111 104 true (.bin .neq (tm 110) (iv 0))]
 112 (tm 111),
 og 113 100 false (.mv (tm 112)),
 .grp (some (100,false)) 113 true
 [og 114 113 true (.faddr 1 (tm 1)),
 og 115 113 true (.load false 1 (tm 114)),
 og 116 113 true (.mv (tm 7)),
 og 117 113 true (.iaddr 5 (tm 115) (tm 116)),
 og 118 113 true (.faddr 2 (tm 117)),
 og 119 113 true (.load false 1 (tm 118)),
 og 120 113 true (.faddr 2 (tm 6)),
 og 121 113 true (.load false 1 (tm 120)),
 og 122 113 true (.bin .neq (tm 119) (tm 121))]
 123 (tm 122)]
 124 (tm 123)]
def lR:List SOp :=
 [o1 2 (.mv (iv 2))]
def lQ:List (ah×Kd) :=
 [od 125 (.bslice false 1 0 [] []) (.read 0 0),
 od 126 (.faddr 3 (tm 6)) .pure,
 od 127 (.load false 1 (tm 126)) (.read 0 0),
 od 128 (.app 1 1 16 [(.str [])] (tm 125) (tm 127)) .eff,
 od 129 (.faddr 4 (tm 6)) .pure,
 od 130 (.load false 1 (tm 129)) (.read 1 0),
 od 131 (.app 1 1 16 [(.str [])] (tm 128) (tm 130)) .eff,
 od 132 (.len false (tm 131)) (.read 0 0),
 od 133 (.mv (iv 0)) .pure]
def j4:List ah :=
 []
def lP:List SOp :=
 [o1 134 (.bin .lss (tm 133) (tm 132))]
def lO:List SOp :=
 [o1 135 (.iaddr 1 (tm 131) (tm 133)),
 o1 136 (.load false 1 (tm 135)),
 o1 9 (.mv (tm 136))]
def lN:List SOp :=
 [o1 137 (.faddr 0 (tm 1)),
 o1 138 (.load false 1 (tm 137)),
 o1 139 (.mv (tm 9)),
 o1 140 (.call 35 [(tm 138),(tm 139)]),
 o1 141 (.bin .lss (tm 140) (iv 0))]
def lM:List SOp :=
 [o1 2 (.mv (iv 22))]
def lL:List SOp :=
 [o1 142 (.bin .add (tm 133) (iv 1)),
 o1 133 (.mv (tm 142))]
def lK:List SOp :=
 [o1 143 (.bin .add (tm 53) (iv 1)),
 o1 53 (.mv (tm 143))]
def lJ:List SOp :=
 [o1 144 (.faddr 0 (tm 1)),
 o1 145 (.load false 1 (tm 144)),
 o1 146 (.call 35 [(tm 145),(.av (.str [111,98,106,101,99,116,99,108,97,115,115]))]),
 o1 10 (.mv (tm 146))]
def lI:List SOp :=
 [o1 147 (.mv (tm 10)),
 o1 148 (.bin .lss (tm 147) (iv 0))]
def lH:List SOp :=
 [o1 2 (.mv (iv 22))]
def lG:List SOp :=
 [o1 149 (.faddr 0 (tm 1)),
 o1 150 (.load false 1 (tm 149)),
 o1 151 (.mv (tm 10)),
 o1 152 (.iaddr 4 (tm 150) (tm 151)),
 o1 153 (.faddr 1 (tm 152)),
 o1 154 (.load false 1 (tm 153)),
 o1 155 (.bin .neq (tm 154) (iv 3)),
 o1 156 (.mv (tm 155)),
 .grp none 156 false
 [og 157 156 false (.faddr 0 (tm 1)),
 og 158 156 false (.load false 1 (tm 157)),
 og 159 156 false (.mv (tm 10)),
 og 160 156 false (.iaddr 4 (tm 158) (tm 159)),
 og 161 156 false (.faddr 2 (tm 160)),
 og 162 156 false (.load false 1 (tm 161))]
 163 (tm 162)]
def lF:List SOp :=
 [o1 2 (.mv (iv 2))]
def lE:List SOp :=
 [o1 2 (.mv (iv 0))]
def kI:aU:=⟨164,(.seq (.sreg qc [])
 (.seq (.seq (.sreg qb [true,false,false,false,false,false])
 (.cond (tm 20) (.seq (.sreg qa [])
 .ret)
 .skip))
 (.seq (.seq (.sreg p9 [true,true,true,false])
 (.block 0 (.loop (.seq (.sreg p8 [])
 (.seq (.cond (tm 25) .skip
 (.exit 0))
 (.seq (.block 1 (.seq (.sreg p7 [true,true,false,false,false])
 (.seq (.seq (.sreg p6 [true,false,false,false])
 (.cond (tm 32) (.seq (.sreg p5 [])
 .ret)
 .skip))
 (.seq (.seq (.sdreg p0 [.pure,(.read 0 0),.pure,(.read 0 0),.pure,(.read 0 0)] [true,false,false,false,false,false,false,false])
 (.cond (tm 40) (.seq (.sreg pZ [])
 .ret)
 .skip))
 (.seq (.sreg ma [true,false,false,false,false])
 (.cond (tm 48) (.seq (.sreg l9 [])
 .ret)
 .skip))))))
 (.sreg l8 [true,false])))))))
 (.seq (.seq (.sreg l7 [true,true,true,false])
 (.block 2 (.loop (.seq (.sreg l6 [])
 (.seq (.cond (tm 54) .skip
 (.exit 2))
 (.seq (.block 3 (.seq (.sreg l5 [true,true,false,false,false])
 (.seq (.seq (.sreg l4 [true,false,false,false])
 (.cond (tm 61) (.seq (.sreg l3 [])
 .ret)
 .skip))
 (.seq (.seq (.sdreg lZ [.pure,(.read 0 0),.pure,(.read 0 0),.pure,(.read 0 0)] [true,false,false,false,false,false,false,false])
 (.cond (tm 69) (.seq (.sreg lY [])
 .ret)
 .skip))
 (.seq (.seq (.sreg lX [true,false,false,false,false])
 (.cond (tm 77) (.seq (.sreg lW [])
 .ret)
 .skip))
 (.seq (.sdreg lV [.pure,(.read 0 0),.pure,(.read 0 0),.pure,(.read 0 0)] [true,false,false,false,false,false,false,false])
 (.seq (.seq (.sreg lU [true,false,false,false,false])
 (.cond (tm 91) (.seq (.sreg lT [])
 .ret)
 .skip))
 (.seq (.seq (.sdreg lS [.pure,(.read 0 0),.pure,.pure,.pure,(.read 0 0),.pure,.pure,.pure,.pure,(.read 0 0),.pure,.pure,.pure,(.read 0 0),.pure,(.read 0 0),.pure,(.read 0 0),.pure,.pure,.pure,.pure,(.read 0 0),.pure,(.read 0 0),.pure,(.read 0 0),.pure,(.read 0 0)] [true,false,false,false,false,false,false])
 (.cond (tm 124) (.seq (.sreg lR [])
 .ret)
 .skip))
 (.seq (.dregM lQ j4 [true,true,true,false,false,false,false,false,false])
 (.block 4 (.loop (.seq (.sreg lP [])
 (.seq (.cond (tm 134) .skip
 (.exit 4))
 (.seq (.block 5 (.seq (.sreg lO [true,false,false])
 (.seq (.sreg lN [true,false,false,false,false])
 (.cond (tm 141) (.seq (.sreg lM [])
 .ret)
 .skip))))
 (.sreg lL [true,false])))))))))))))))
 (.sreg lK [true,false])))))))
 (.seq (.sreg lJ [true,false,false,false])
 (.seq (.seq (.sreg lI [true,false])
 (.cond (tm 148) (.seq (.sreg lH [])
 .ret)
 .skip))
 (.seq (.seq (.sreg lG [true,false,false,false,false,false,false,false,false])
 (.cond (tm 163) (.seq (.sreg lF [])
 .ret)
 .skip))
 (.seq (.sreg lE [])
 .ret)))))))),[(.tmp 2)]⟩
attribute [push_cast] qc qb qa p9 p8 p7 p6 p5 p0 pZ ma l9 l8 l7 l6 l5 l4 l3 lZ lY lX lW lV lU lT lS lR lQ j4 lP lO lN lM lL lK lJ lI lH lG lF lE
theorem Dl:aW Tryz.prog (fun _ _=>1) 46=some kI.raw:=by kernel_rfl
def lD:List SOp :=
 [o1 4 (.mv (.av (.sl [] 0 (some 0))))]
def lC:List SOp :=
 [o1 7 (.mv (tm 0)),
 o1 8 (.len false (tm 7)),
 o1 9 (.mv (iv 0))]
def lB:List SOp :=
 [o1 10 (.bin .lss (tm 9) (tm 8))]
def lA:List SOp :=
 [o1 11 (.iaddr 2 (tm 7) (tm 9)),
 o1 12 (.load true 2 (tm 11)),
 o1 6 (.alloc [(.str []),(.sl [] 0 (some 0))]),
 o0 (.store 2 (tm 6) (tm 12))]
def lz:List SOp :=
 [o1 13 (.faddr 0 (tm 6)),
 o1 14 (.load false 1 (tm 13)),
 o1 15 (.call 51 [(tm 14)]),
 o1 16 (.mv (tm 1)),
 o1 17 (.call 51 [(tm 16)]),
 o1 18 (.bin .eql (tm 15) (tm 17))]
def lw:List SOp :=
 [o1 19 (.bslice false 1 0 [] []),
 o1 20 (.faddr 1 (tm 6)),
 o1 21 (.load false 1 (tm 20)),
 o1 22 (.app 1 1 16 [(.str [])] (tm 19) (tm 21)),
 o1 4 (.mv (tm 22))]
def lv:List SOp :=
 [o1 23 (.bin .add (tm 9) (iv 1)),
 o1 9 (.mv (tm 23))]
def lu:List SOp :=
 [o1 4 (.mv (.av (.sl [] 0 (some 0))))]
def jt:aU:=⟨24,(.seq (.sreg lD [])
 (.seq (.seq (.sreg lC [])
 (.block 0 (.loop (.seq (.sreg lB [])
 (.seq (.cond (tm 10) .skip
 (.exit 0))
 (.seq (.block 1 (.seq (.sreg lA [true,false,false])
 (.seq (.sreg lz [true,false,false,false,false,false])
 (.cond (tm 18) (.seq (.sreg lw [true,false,false,false,false])
 .ret)
 .skip))))
 (.sreg lv [true,false])))))))
 (.seq (.sreg lu [])
 .ret))),[(.tmp 4)]⟩
attribute [push_cast] lD lC lB lA lz lw lv lu
theorem CD:aW Tryz.prog (fun _ _=>1) 29=some jt.raw:=by kernel_rfl
def tu:List SOp :=
 [o1 4 (.mv (.av (.str [])))]
def tt:List SOp :=
 [o1 8 (.mv (tm 0)),
 o1 9 (.mv (tm 1)),
 o1 10 (.call 52 [(tm 8),(tm 9)]),
 o1 7 (.mv (tm 10)),
 o1 11 (.extract (tm 7) 0),
 o1 12 (.extract (tm 7) 1),
 o1 5 (.mv (tm 11)),
 o1 6 (.mv (tm 12))]
def tq:List SOp :=
 [o1 13 (.mv (tm 5)),
 o1 4 (.mv (tm 13))]
def o4:aU:=⟨14,(.seq (.sreg tu [])
 (.seq (.sreg tt [false,true,false,false,false,false,false,false])
 (.seq (.sreg tq [true,false])
 .ret))),[(.tmp 4)]⟩
attribute [push_cast] tu tt tq
theorem Es:aW Tryz.prog (fun _ _=>1) 53=some o4.raw:=by kernel_rfl
def A9:List SOp :=
 [o1 6 (.mv (.av (.bool false)))]
def A8:List SOp :=
 [o1 9 (.mv (tm 1)),
 o1 10 (.len false (tm 9)),
 o1 11 (.mv (iv 0))]
def A7:List SOp :=
 [o1 12 (.bin .lss (tm 11) (tm 10))]
def A6:List SOp :=
 [o1 13 (.iaddr 1 (tm 9) (tm 11)),
 o1 14 (.load false 1 (tm 13)),
 o1 8 (.mv (tm 14))]
def A5:List SOp :=
 [o1 15 (.mv (tm 0)),
 o1 16 (.mv (tm 8)),
 o1 17 (.call 53 [(tm 15),(tm 16)]),
 o1 18 (.mv (tm 2)),
 o1 19 (.bin .eql (tm 17) (tm 18))]
def A4:List SOp :=
 [o1 6 (.mv (.av (.bool true)))]
def A3:List SOp :=
 [o1 20 (.bin .add (tm 11) (iv 1)),
 o1 11 (.mv (tm 20))]
def A0:List SOp :=
 [o1 6 (.mv (.av (.bool false)))]
def An:aU:=⟨21,(.seq (.sreg A9 [])
 (.seq (.seq (.sreg A8 [])
 (.block 0 (.loop (.seq (.sreg A7 [])
 (.seq (.cond (tm 12) .skip
 (.exit 0))
 (.seq (.block 1 (.seq (.sreg A6 [true,false,false])
 (.seq (.sreg A5 [true,false,false,false,false])
 (.cond (tm 19) (.seq (.sreg A4 [])
 .ret)
 .skip))))
 (.sreg A3 [true,false])))))))
 (.seq (.sreg A0 [])
 .ret))),[(.tmp 6)]⟩
attribute [push_cast] A9 A8 A7 A6 A5 A4 A3 A0
theorem GC:aW Tryz.prog (fun _ _=>1) 57=some An.raw:=by kernel_rfl
def tH:List SOp :=
 [o1 6 (.mv (.av (.sl [] 0 (some 0))))]
def tG:List SOp :=
 [o1 7 (.mv (.av (.sl [] 0 (some 0))))]
def tF:List SOp :=
 [o1 8 (.mv (.av (.bool false)))]
def tE:List SOp :=
 [o1 11 (.mv (tm 1)),
 o1 12 (.len false (tm 11)),
 o1 13 (.mv (iv 0))]
def tD:List SOp :=
 [o1 14 (.bin .lss (tm 13) (tm 12))]
def tC:List SOp :=
 [o1 15 (.iaddr 1 (tm 11) (tm 13)),
 o1 16 (.load false 1 (tm 15)),
 o1 10 (.mv (tm 16))]
def tz:List SOp :=
 [o1 17 (.mv (tm 8)),
 o1 18 (.un .not (tm 17)),
 o1 19 (.mv (tm 18)),
 .grp none 19 true
 [og 20 19 true (.mv (tm 0)),
 og 21 19 true (.mv (tm 2)),
 og 22 19 true (.call 53 [(tm 20),(tm 21)]),
 og 23 19 true (.mv (tm 0)),
 og 24 19 true (.mv (tm 10)),
 og 25 19 true (.call 53 [(tm 23),(tm 24)]),
 og 26 19 true (.bin .lss (tm 22) (tm 25))]
 27 (tm 26)]
def tx:List SOp :=
 [o1 28 (.mv (tm 7)),
 o1 29 (.mv (tm 2)),
 o1 30 (.bslice false 1 1 [(.str [])] [(0,(1,(tm 29)))]),
 o1 31 (.app 1 1 16 [(.str [])] (tm 28) (tm 30)),
 o1 7 (.mv (tm 31))]
def tw:List SOp :=
 [o1 8 (.mv (.av (.bool true)))]
def tv:List SOp :=
 [o1 32 (.mv (tm 7)),
 o1 33 (.mv (tm 10)),
 o1 34 (.bslice false 1 1 [(.str [])] [(0,(1,(tm 33)))]),
 o1 35 (.app 1 1 16 [(.str [])] (tm 32) (tm 34)),
 o1 7 (.mv (tm 35))]
def pL:List SOp :=
 [o1 36 (.bin .add (tm 13) (iv 1)),
 o1 13 (.mv (tm 36))]
def pK:List SOp :=
 [o1 37 (.mv (tm 8)),
 o1 38 (.un .not (tm 37))]
def pJ:List SOp :=
 [o1 39 (.mv (tm 7)),
 o1 40 (.mv (tm 2)),
 o1 41 (.bslice false 1 1 [(.str [])] [(0,(1,(tm 40)))]),
 o1 42 (.app 1 1 16 [(.str [])] (tm 39) (tm 41)),
 o1 7 (.mv (tm 42))]
def pI:List SOp :=
 [o1 43 (.mv (tm 7)),
 o1 6 (.mv (tm 43))]
def o5:aU:=⟨44,(.seq (.sreg tH [])
 (.seq (.sreg tG [])
 (.seq (.sreg tF [])
 (.seq (.seq (.sreg tE [])
 (.block 0 (.loop (.seq (.sreg tD [])
 (.seq (.cond (tm 14) .skip
 (.exit 0))
 (.seq (.block 1 (.seq (.sreg tC [true,false,false])
 (.seq (.seq (.sreg tz [true,false,false,false])
 (.cond (tm 27) (.seq (.sreg tx [true,false,false,false,false])
 (.sreg tw []))
 .skip))
 (.sreg tv [true,false,false,false,false]))))
 (.sreg pL [true,false])))))))
 (.seq (.seq (.sreg pK [true,false])
 (.cond (tm 38) (.sreg pJ [true,false,false,false,false])
 .skip))
 (.seq (.sreg pI [true,false])
 .ret)))))),[(.tmp 6)]⟩
attribute [push_cast] tH tG tF tE tD tC tz tx tw tv pL pK pJ pI
theorem Et:aW Tryz.prog (fun _ _=>1) 63=some o5.raw:=by kernel_rfl
def yc:List SOp :=
 [o1 3 (.box (tm 0)),
 o1 6 (.mv (.av (.sl [] 0 (some 0)))),
 o1 7 (.mv (iv 0))]
def yb:List SOp :=
 [o1 12 (.mv (tm 2)),
 o1 13 (.len false (tm 12)),
 o1 14 (.mv (iv 0))]
def ya:List SOp :=
 [o1 15 (.bin .lss (tm 14) (tm 13))]
def x9:List SOp :=
 [o1 16 (.iaddr 1 (tm 12) (tm 14)),
 o1 17 (.load false 1 (tm 16)),
 o1 9 (.mv (tm 17))]
def x8:List SOp :=
 [o1 19 (.faddr 1 (tm 3)),
 o1 20 (.load false 1 (tm 19)),
 o1 21 (.mv (tm 9)),
 o1 22 (.call 52 [(tm 20),(tm 21)]),
 o1 18 (.mv (tm 22)),
 o1 23 (.extract (tm 18) 0),
 o1 24 (.extract (tm 18) 1),
 o1 10 (.mv (tm 23)),
 o1 11 (.mv (tm 24))]
def x0:List SOp :=
 [o1 25 (.mv (tm 11)),
 o1 26 (.un .not (tm 25))]
def xZ:List SOp :=
 [o1 6 (.mv (.av (.sl [] 0 (some 0)))),
 o1 7 (.mv (iv 21))]
def xY:List SOp :=
 [o1 27 (.faddr 1 (tm 3)),
 o1 28 (.load false 1 (tm 27)),
 o1 29 (.mv (tm 1)),
 o1 30 (.mv (tm 10)),
 o1 31 (.call 57 [(tm 28),(tm 29),(tm 30)])]
def xX:List SOp :=
 [o1 6 (.mv (.av (.sl [] 0 (some 0)))),
 o1 7 (.mv (iv 20))]
def xW:List SOp :=
 [o1 32 (.faddr 1 (tm 3)),
 o1 33 (.load false 1 (tm 32)),
 o1 34 (.mv (tm 1)),
 o1 35 (.mv (tm 9)),
 o1 36 (.call 63 [(tm 33),(tm 34),(tm 35)]),
 o1 1 (.mv (tm 36))]
def tL:List SOp :=
 [o1 37 (.bin .add (tm 14) (iv 1)),
 o1 14 (.mv (tm 37))]
def tK:List SOp :=
 [o1 38 (.faddr 2 (tm 3)),
 o1 39 (.load false 1 (tm 38)),
 o1 40 (.mv (tm 39)),
 .grp none 40 true
 [og 41 40 true (.mv (tm 1)),
 og 42 40 true (.len false (tm 41)),
 og 43 40 true (.bin .gtr (tm 42) (iv 1))]
 44 (tm 43)]
def tJ:List SOp :=
 [o1 6 (.mv (.av (.sl [] 0 (some 0)))),
 o1 7 (.mv (iv 19))]
def tI:List SOp :=
 [o1 45 (.mv (tm 1)),
 o1 6 (.mv (tm 45)),
 o1 7 (.mv (iv 0))]
def xa:aU:=⟨46,(.seq (.sreg yc [])
 (.seq (.seq (.sreg yb [])
 (.block 0 (.loop (.seq (.sreg ya [])
 (.seq (.cond (tm 15) .skip
 (.exit 0))
 (.seq (.block 1 (.seq (.sreg x9 [true,false,false])
 (.seq (.sreg x8 [true,true,false,false,false,false,false,false,false])
 (.seq (.seq (.sreg x0 [true,false])
 (.cond (tm 26) (.seq (.sreg xZ [])
 .ret)
 .skip))
 (.seq (.seq (.sreg xY [true,false,false,false,false])
 (.cond (tm 31) (.seq (.sreg xX [])
 .ret)
 .skip))
 (.sreg xW [true,false,false,false,false,false]))))))
 (.sreg tL [true,false])))))))
 (.seq (.seq (.sreg tK [true,false,false,false])
 (.cond (tm 44) (.seq (.sreg tJ [])
 .ret)
 .skip))
 (.seq (.sreg tI [true,true,false])
 .ret)))),[(.tmp 6),(.tmp 7)]⟩
attribute [push_cast] yc yb ya x9 x8 x0 xZ xY xX xW tL tK tJ tI
theorem Ge:aW Tryz.prog (fun _ _=>1) 36=some xa.raw:=by kernel_rfl
def ym:List SOp :=
 [o1 6 (.mv (.av (.sl [] 0 (some 0))))]
def yl:List SOp :=
 [o1 7 (.mv (.av (.sl [] 0 (some 0))))]
def yk:List SOp :=
 [o1 11 (.mv (tm 2)),
 o1 12 (.len false (tm 11)),
 o1 13 (.bin .eql (tm 12) (iv 0)),
 o1 8 (.mv (tm 13))]
def yj:List SOp :=
 [o1 14 (.mv (tm 0)),
 o1 15 (.len false (tm 14)),
 o1 16 (.mv (iv 0))]
def yi:List SOp :=
 [o1 17 (.bin .lss (tm 16) (tm 15))]
def yh:List SOp :=
 [o1 18 (.iaddr 2 (tm 14) (tm 16)),
 o1 19 (.load true 2 (tm 18)),
 o1 10 (.alloc [(.str []),(.sl [] 0 (some 0))]),
 o0 (.store 2 (tm 10) (tm 19))]
def yg:List SOp :=
 [o1 20 (.mv (tm 8)),
 o1 21 (.un .not (tm 20)),
 o1 22 (.mv (tm 21)),
 .grp none 22 true
 [og 23 22 true (.mv (tm 1)),
 og 24 22 true (.call 51 [(tm 23)]),
 og 25 22 true (.faddr 0 (tm 10)),
 og 26 22 true (.load false 1 (tm 25)),
 og 27 22 true (.call 51 [(tm 26)]),
 og 28 22 true (.bin .leq (tm 24) (tm 27))]
 29 (tm 28)]
def yf:List SOp :=
 [o1 30 (.mv (tm 7)),
 o1 31 (.mv (tm 1)),
 o1 32 (.mv (tm 2)),
 o1 33 (.build [(.str []),(.sl [] 0 (some 0))] [(0,(1,(tm 31))),(1,(1,(tm 32)))]),
 o1 34 (.bslice false 2 1 [(.str []),(.sl [] 0 (some 0))] [(0,(2,(tm 33)))]),
 o1 35 (.app 1 2 40 [(.str []),(.sl [] 0 (some 0))] (tm 30) (tm 34)),
 o1 7 (.mv (tm 35))]
def ye:List SOp :=
 [o1 8 (.mv (.av (.bool true)))]
def yd:List SOp :=
 [o1 36 (.mv (tm 1)),
 o1 37 (.call 51 [(tm 36)]),
 o1 38 (.faddr 0 (tm 10)),
 o1 39 (.load false 1 (tm 38)),
 o1 40 (.call 51 [(tm 39)]),
 o1 41 (.bin .neq (tm 37) (tm 40))]
def t7:List SOp :=
 [o1 42 (.mv (tm 7)),
 o1 43 (.load true 2 (tm 10)),
 o1 44 (.bslice false 2 1 [(.str []),(.sl [] 0 (some 0))] [(0,(2,(tm 43)))]),
 o1 45 (.app 1 2 40 [(.str []),(.sl [] 0 (some 0))] (tm 42) (tm 44)),
 o1 7 (.mv (tm 45))]
def tZ:List SOp :=
 [o1 46 (.bin .add (tm 16) (iv 1)),
 o1 16 (.mv (tm 46))]
def tY:List SOp :=
 [o1 47 (.mv (tm 8)),
 o1 48 (.un .not (tm 47))]
def tX:List SOp :=
 [o1 49 (.mv (tm 7)),
 o1 50 (.mv (tm 1)),
 o1 51 (.mv (tm 2)),
 o1 52 (.build [(.str []),(.sl [] 0 (some 0))] [(0,(1,(tm 50))),(1,(1,(tm 51)))]),
 o1 53 (.bslice false 2 1 [(.str []),(.sl [] 0 (some 0))] [(0,(2,(tm 52)))]),
 o1 54 (.app 1 2 40 [(.str []),(.sl [] 0 (some 0))] (tm 49) (tm 53)),
 o1 7 (.mv (tm 54))]
def tW:List SOp :=
 [o1 55 (.mv (tm 7)),
 o1 6 (.mv (tm 55))]
def xb:aU:=⟨56,(.seq (.sreg ym [])
 (.seq (.sreg yl [])
 (.seq (.sreg yk [true,false,false,false])
 (.seq (.seq (.sreg yj [])
 (.block 0 (.loop (.seq (.sreg yi [])
 (.seq (.cond (tm 17) .skip
 (.exit 0))
 (.seq (.block 1 (.seq (.sreg yh [true,false,false])
 (.seq (.seq (.sdreg yg [.pure,.pure,.pure,.pure,(.read 0 0),.pure,(.read 0 0)] [true,false,false,false])
 (.cond (tm 29) (.seq (.sreg yf [true,false,false,false,false,false,false])
 (.sreg ye []))
 .skip))
 (.seq (.sdreg yd [.pure,(.read 0 0),.pure,(.read 0 0)] [true,false,false,false,false,false])
 (.cond (tm 41) (.sreg t7 [true,false,false,false,false])
 .skip)))))
 (.sreg tZ [true,false])))))))
 (.seq (.seq (.sreg tY [true,false])
 (.cond (tm 48) (.sreg tX [true,false,false,false,false,false,false])
 .skip))
 (.seq (.sreg tW [true,false])
 .ret)))))),[(.tmp 6)]⟩
attribute [push_cast] ym yl yk yj yi yh yg yf ye yd t7 tZ tY tX tW
theorem Gf:aW Tryz.prog (fun _ _=>1) 37=some xb.raw:=by kernel_rfl
def uv:List SOp :=
 [o1 2 (.box (tm 0)),
 o1 4 (.mv (.av (.sl [] 0 (some 0)))),
 o1 5 (.mv (iv 0))]
def uu:List SOp :=
 [o1 6 (.mv (.av (.sl [] 0 (some 0))))]
def ut:List SOp :=
 [o1 12 (.mv (tm 1)),
 o1 13 (.len false (tm 12)),
 o1 14 (.mv (iv 0))]
def ur:List SOp :=
 [o1 15 (.bin .lss (tm 14) (tm 13))]
def uq:List SOp :=
 [o1 16 (.iaddr 2 (tm 12) (tm 14)),
 o1 17 (.load true 2 (tm 16)),
 o1 8 (.alloc [(.str []),(.sl [] 0 (some 0))]),
 o0 (.store 2 (tm 8) (tm 17))]
def uo:List SOp :=
 [o1 18 (.faddr 0 (tm 2)),
 o1 19 (.load false 1 (tm 18)),
 o1 20 (.faddr 0 (tm 8)),
 o1 21 (.load false 1 (tm 20)),
 o1 22 (.call 35 [(tm 19),(tm 21)]),
 o1 9 (.mv (tm 22))]
def um:List SOp :=
 [o1 23 (.mv (tm 9)),
 o1 24 (.bin .lss (tm 23) (iv 0))]
def ul:List SOp :=
 [o1 4 (.mv (.av (.sl [] 0 (some 0)))),
 o1 5 (.mv (iv 17))]
def uk:List SOp :=
 [o1 25 (.faddr 1 (tm 8)),
 o1 26 (.load false 1 (tm 25)),
 o1 27 (.len false (tm 26)),
 o1 28 (.bin .eql (tm 27) (iv 0))]
def uj:List SOp :=
 [o1 4 (.mv (.av (.sl [] 0 (some 0)))),
 o1 5 (.mv (iv 19))]
def pY:List SOp :=
 [o1 30 (.faddr 0 (tm 2)),
 o1 31 (.load false 1 (tm 30)),
 o1 32 (.mv (tm 9)),
 o1 33 (.iaddr 4 (tm 31) (tm 32)),
 o1 34 (.load true 4 (tm 33)),
 o1 35 (.mv (tm 6)),
 o1 36 (.faddr 0 (tm 8)),
 o1 37 (.load false 1 (tm 36)),
 o1 38 (.call 29 [(tm 35),(tm 37)]),
 o1 39 (.faddr 1 (tm 8)),
 o1 40 (.load false 1 (tm 39)),
 o1 41 (.call 36 [(tm 34),(tm 38),(tm 40)]),
 o1 29 (.mv (tm 41)),
 o1 42 (.extract (tm 29) 0),
 o1 43 (.extract (tm 29) 1),
 o1 10 (.mv (tm 42)),
 o1 11 (.mv (tm 43))]
def pX:List SOp :=
 [o1 44 (.mv (tm 11)),
 o1 45 (.bin .neq (tm 44) (iv 0))]
def pW:List SOp :=
 [o1 46 (.mv (tm 11)),
 o1 4 (.mv (.av (.sl [] 0 (some 0)))),
 o1 5 (.mv (tm 46))]
def pV:List SOp :=
 [o1 47 (.mv (tm 6)),
 o1 48 (.faddr 0 (tm 2)),
 o1 49 (.load false 1 (tm 48)),
 o1 50 (.mv (tm 9)),
 o1 51 (.iaddr 4 (tm 49) (tm 50)),
 o1 52 (.faddr 0 (tm 51)),
 o1 53 (.load false 1 (tm 52)),
 o1 54 (.mv (tm 10)),
 o1 55 (.call 37 [(tm 47),(tm 53),(tm 54)]),
 o1 6 (.mv (tm 55))]
def pU:List SOp :=
 [o1 56 (.bin .add (tm 14) (iv 1)),
 o1 14 (.mv (tm 56))]
def pT:List SOp :=
 [o1 57 (.mv (tm 6)),
 o1 4 (.mv (tm 57)),
 o1 5 (.mv (iv 0))]
def o8:aU:=⟨58,(.seq (.sreg uv [])
 (.seq (.sreg uu [])
 (.seq (.seq (.sreg ut [])
 (.block 0 (.loop (.seq (.sreg ur [])
 (.seq (.cond (tm 15) .skip
 (.exit 0))
 (.seq (.block 1 (.seq (.sreg uq [true,false,false])
 (.seq (.sreg uo [true,false,false,false,false,false])
 (.seq (.seq (.sreg um [true,false])
 (.cond (tm 24) (.seq (.sreg ul [])
 .ret)
 .skip))
 (.seq (.seq (.sreg uk [true,false,false,false])
 (.cond (tm 28) (.seq (.sreg uj [])
 .ret)
 .skip))
 (.seq (.sdreg pY [.pure,(.read 0 0),.pure,(.read 0 0),(.read 0 0),.pure,.pure,(.read 0 0),(.read 0 0),.pure,(.read 0 0),(.read 0 0),.pure,.pure,.pure,.pure] [true,true,false,false,false,false,false,false,false,false,false,false,false,false,false,false,false])
 (.seq (.seq (.sreg pX [true,false])
 (.cond (tm 45) (.seq (.sreg pW [true,true,false])
 .ret)
 .skip))
 (.sreg pV [true,false,false,false,false,false,false,false,false,false]))))))))
 (.sreg pU [true,false])))))))
 (.seq (.sreg pT [true,true,false])
 .ret)))),[(.tmp 4),(.tmp 5)]⟩
attribute [push_cast] uv uu ut ur uq uo um ul uk uj pY pX pW pV pU pT
theorem Ew:aW Tryz.prog (fun _ _=>1) 11=some o8.raw:=by kernel_rfl
def ui:List SOp :=
 [o1 4 (.mv (.av (.bool false)))]
def uh:List SOp :=
 [o1 7 (.mv (tm 0)),
 o1 8 (.len false (tm 7)),
 o1 9 (.mv (tm 1)),
 o1 10 (.len false (tm 9)),
 o1 11 (.bin .neq (tm 8) (tm 10))]
def ug:List SOp :=
 [o1 4 (.mv (.av (.bool false)))]
def uf:List SOp :=
 [o1 12 (.mv (tm 0)),
 o1 13 (.len false (tm 12)),
 o1 14 (.mv (iv 0))]
def ue:List SOp :=
 [o1 15 (.bin .lss (tm 14) (tm 13))]
def ud:List SOp :=
 [o1 16 (.mv (tm 14)),
 o1 5 (.mv (tm 16))]
def uc:List SOp :=
 [o1 17 (.mv (tm 0)),
 o1 18 (.mv (tm 5)),
 o1 19 (.iaddr 2 (tm 17) (tm 18)),
 o1 20 (.faddr 0 (tm 19)),
 o1 21 (.load false 1 (tm 20)),
 o1 22 (.mv (tm 1)),
 o1 23 (.mv (tm 5)),
 o1 24 (.iaddr 2 (tm 22) (tm 23)),
 o1 25 (.faddr 0 (tm 24)),
 o1 26 (.load false 1 (tm 25)),
 o1 27 (.bin .neq (tm 21) (tm 26)),
 o1 28 (.mv (tm 27)),
 .grp none 28 false
 [og 29 28 false (.mv (tm 0)),
 og 30 28 false (.mv (tm 5)),
 og 31 28 false (.iaddr 2 (tm 29) (tm 30)),
 og 32 28 false (.faddr 1 (tm 31)),
 og 33 28 false (.load false 1 (tm 32)),
 og 34 28 false (.len false (tm 33)),
 og 35 28 false (.mv (tm 1)),
 og 36 28 false (.mv (tm 5)),
 og 37 28 false (.iaddr 2 (tm 35) (tm 36)),
 og 38 28 false (.faddr 1 (tm 37)),
 og 39 28 false (.load false 1 (tm 38)),
 og 40 28 false (.len false (tm 39)),
 og 41 28 false (.bin .neq (tm 34) (tm 40))]
 42 (tm 41)]
def ub:List SOp :=
 [o1 4 (.mv (.av (.bool false)))]
def ua:List SOp :=
 [o1 43 (.mv (tm 0)),
 o1 44 (.mv (tm 5)),
 o1 45 (.iaddr 2 (tm 43) (tm 44)),
 o1 46 (.faddr 1 (tm 45)),
 o1 47 (.load false 1 (tm 46)),
 o1 48 (.len false (tm 47)),
 o1 49 (.mv (iv 0))]
def t8:List SOp :=
 [o1 50 (.bin .lss (tm 49) (tm 48))]
def pS:List SOp :=
 [o1 51 (.mv (tm 49)),
 o1 6 (.mv (tm 51))]
def pR:List SOp :=
 [o1 52 (.mv (tm 0)),
 o1 53 (.mv (tm 5)),
 o1 54 (.iaddr 2 (tm 52) (tm 53)),
 o1 55 (.faddr 1 (tm 54)),
 o1 56 (.load false 1 (tm 55)),
 o1 57 (.mv (tm 6)),
 o1 58 (.iaddr 1 (tm 56) (tm 57)),
 o1 59 (.load false 1 (tm 58)),
 o1 60 (.mv (tm 1)),
 o1 61 (.mv (tm 5)),
 o1 62 (.iaddr 2 (tm 60) (tm 61)),
 o1 63 (.faddr 1 (tm 62)),
 o1 64 (.load false 1 (tm 63)),
 o1 65 (.mv (tm 6)),
 o1 66 (.iaddr 1 (tm 64) (tm 65)),
 o1 67 (.load false 1 (tm 66)),
 o1 68 (.bin .neq (tm 59) (tm 67))]
def pQ:List SOp :=
 [o1 4 (.mv (.av (.bool false)))]
def pP:List SOp :=
 [o1 69 (.bin .add (tm 49) (iv 1)),
 o1 49 (.mv (tm 69))]
def pO:List SOp :=
 [o1 70 (.bin .add (tm 14) (iv 1)),
 o1 14 (.mv (tm 70))]
def pN:List SOp :=
 [o1 4 (.mv (.av (.bool true)))]
def o7:aU:=⟨71,(.seq (.sreg ui [])
 (.seq (.seq (.sreg uh [true,false,false,false,false])
 (.cond (tm 11) (.seq (.sreg ug [])
 .ret)
 .skip))
 (.seq (.seq (.sreg uf [true,true,false])
 (.block 0 (.loop (.seq (.sreg ue [])
 (.seq (.cond (tm 15) .skip
 (.exit 0))
 (.seq (.block 1 (.seq (.sreg ud [true,false])
 (.seq (.seq (.sdreg uc [.pure,.pure,(.read 0 0),.pure,(.read 0 0),.pure,.pure,(.read 0 0),.pure,(.read 0 0),.pure,.pure,.pure,.pure,(.read 0 0),.pure,(.read 0 0),(.read 0 0),.pure,.pure,(.read 0 0),.pure,(.read 0 0),(.read 0 0)] [true,false,false,false,false,false,false,false,false,false,false,false,false])
 (.cond (tm 42) (.seq (.sreg ub [])
 .ret)
 .skip))
 (.seq (.sreg ua [true,true,false,false,false,false,false])
 (.block 2 (.loop (.seq (.sreg t8 [])
 (.seq (.cond (tm 50) .skip
 (.exit 2))
 (.seq (.block 3 (.seq (.sreg pS [true,false])
 (.seq (.sdreg pR [.pure,.pure,(.read 0 0),.pure,(.read 0 0),.pure,(.read 0 0),(.read 0 0),.pure,.pure,(.read 0 0),.pure,(.read 0 0),.pure,(.read 0 0),(.read 0 0)] [true,false,false,false,false,false,false,false,false,false,false,false,false,false,false,false,false])
 (.cond (tm 68) (.seq (.sreg pQ [])
 .ret)
 .skip))))
 (.sreg pP [true,false]))))))))))
 (.sreg pO [true,false])))))))
 (.seq (.sreg pN [])
 .ret)))),[(.tmp 4)]⟩
attribute [push_cast] ui uh ug uf ue ud uc ub ua t8 pS pR pQ pP pO pN
theorem Ev:aW Tryz.prog (fun _ _=>1) 25=some o7.raw:=by kernel_rfl
def y1:List SOp :=
 [o1 2 (.mv (.av (.bool false)))]
def y0:List SOp :=
 [o1 7 (.mv (tm 0)),
 o1 8 (.len false (tm 7)),
 o1 9 (.mv (iv 0))]
def yZ:List SOp :=
 [o1 10 (.bin .lss (tm 9) (tm 8))]
def yY:List SOp :=
 [o1 11 (.iaddr 2 (tm 7) (tm 9)),
 o1 12 (.load true 2 (tm 11)),
 o1 4 (.alloc [(.str []),(.sl [] 0 (some 0))]),
 o0 (.store 2 (tm 4) (tm 12))]
def yX:List SOp :=
 [o1 13 (.mv (tm 0)),
 o1 14 (.len false (tm 13)),
 o1 15 (.bin .gtr (tm 14) (iv 60)),
 o1 16 (.mv (tm 15)),
 .grp none 16 false
 [og 17 16 false (.faddr 1 (tm 4)),
 og 18 16 false (.load false 1 (tm 17)),
 og 19 16 false (.len false (tm 18)),
 og 20 16 false (.bin .gtr (tm 19) (iv 60))]
 21 (tm 20)]
def yW:List SOp :=
 [o1 2 (.mv (.av (.bool false)))]
def yV:List SOp :=
 [o1 22 (.faddr 1 (tm 4)),
 o1 23 (.load false 1 (tm 22)),
 o1 24 (.len false (tm 23)),
 o1 25 (.mv (iv 0))]
def yU:List SOp :=
 [o1 26 (.bin .lss (tm 25) (tm 24))]
def yT:List SOp :=
 [o1 27 (.iaddr 1 (tm 23) (tm 25)),
 o1 28 (.load false 1 (tm 27)),
 o1 6 (.mv (tm 28))]
def yS:List SOp :=
 [o1 29 (.mv (tm 6)),
 o1 30 (.len true (tm 29)),
 o1 31 (.bin .gtr (tm 30) (iv 5000))]
def ww:List SOp :=
 [o1 2 (.mv (.av (.bool false)))]
def wu:List SOp :=
 [o1 32 (.bin .add (tm 25) (iv 1)),
 o1 25 (.mv (tm 32))]
def wt:List SOp :=
 [o1 33 (.bin .add (tm 9) (iv 1)),
 o1 9 (.mv (tm 33))]
def wr:List SOp :=
 [o1 2 (.mv (.av (.bool true)))]
def xg:aU:=⟨34,(.seq (.sreg y1 [])
 (.seq (.seq (.sreg y0 [])
 (.block 0 (.loop (.seq (.sreg yZ [])
 (.seq (.cond (tm 10) .skip
 (.exit 0))
 (.seq (.block 1 (.seq (.sreg yY [true,false,false])
 (.seq (.seq (.sreg yX [true,false,false,false,false])
 (.cond (tm 21) (.seq (.sreg yW [])
 .ret)
 .skip))
 (.seq (.sreg yV [true,true,true,false])
 (.block 2 (.loop (.seq (.sreg yU [])
 (.seq (.cond (tm 26) .skip
 (.exit 2))
 (.seq (.block 3 (.seq (.sreg yT [true,false,false])
 (.seq (.sreg yS [true,false,false])
 (.cond (tm 31) (.seq (.sreg ww [])
 .ret)
 .skip))))
 (.sreg wu [true,false]))))))))))
 (.sreg wt [true,false])))))))
 (.seq (.sreg wr [])
 .ret))),[(.tmp 2)]⟩
attribute [push_cast] y1 y0 yZ yY yX yW yV yU yT yS ww wu wt wr
theorem Gk:aW Tryz.prog (fun _ _=>1) 9=some xg.raw:=by kernel_rfl
def XR:List SOp :=
 [o1 2 (.mv (.av (.bool false)))]
def XQ:List SOp :=
 [o1 3 (.mv (.av (.sl [] 0 (some 0))))]
def XP:List SOp :=
 [o1 6 (.mv (tm 0)),
 o1 7 (.mv (tm 0)),
 o1 8 (.len false (tm 7)),
 o1 9 (.minmax false [(tm 8),(iv 61)]),
 o1 10 (.slV 3 (tm 6) none (some (tm 9)) none),
 o1 11 (.len false (tm 10)),
 o1 12 (.mv (iv 0))]
def XO:List SOp :=
 [o1 13 (.bin .lss (tm 12) (tm 11))]
def XN:List SOp :=
 [o1 14 (.iaddr 3 (tm 10) (tm 12)),
 o1 15 (.load true 3 (tm 14)),
 o1 5 (.alloc [(.int .i64 0),(.str []),(.sl [] 0 (some 0))]),
 o0 (.store 3 (tm 5) (tm 15))]
def XM:List SOp :=
 [o1 16 (.mv (tm 3)),
 o1 17 (.faddr 2 (tm 5)),
 o1 18 (.load false 1 (tm 17)),
 o1 19 (.build [(.str []),(.sl [] 0 (some 0))] [(1,(1,(tm 18)))]),
 o1 20 (.bslice false 2 1 [(.str []),(.sl [] 0 (some 0))] [(0,(2,(tm 19)))]),
 o1 21 (.app 1 2 40 [(.str []),(.sl [] 0 (some 0))] (tm 16) (tm 20)),
 o1 3 (.mv (tm 21))]
def XL:List SOp :=
 [o1 22 (.bin .add (tm 12) (iv 1)),
 o1 12 (.mv (tm 22))]
def XK:List SOp :=
 [o1 23 (.mv (tm 3)),
 o1 24 (.call 9 [(tm 23)]),
 o1 2 (.mv (tm 24))]
def aa5:aU:=⟨25,(.seq (.sreg XR [])
 (.seq (.sreg XQ [])
 (.seq (.seq (.sreg XP [true,true,true,false,false,false,false])
 (.block 0 (.loop (.seq (.sreg XO [])
 (.seq (.cond (tm 13) .skip
 (.exit 0))
 (.seq (.block 1 (.seq (.sreg XN [true,false,false])
 (.sreg XM [true,false,false,false,false,false,false])))
 (.sreg XL [true,false])))))))
 (.seq (.sreg XK [true,false,false])
 .ret)))),[(.tmp 2)]⟩
attribute [push_cast] XR XQ XP XO XN XM XL XK
theorem aa4:aW Tryz.prog (fun _ _=>1) 21=some aa5.raw:=by kernel_rfl
def su:List SOp :=
 [o1 0 (.mv (.av (.bool false)))]
def sr:List SOp :=
 [o1 10 (.call 12 []),
 o1 1 (.alloc [(.sl [] 0 (some 0)),(.sl [] 0 (some 0))]),
 o0 (.store 2 (tm 1) (tm 10))]
def sq:List SOp :=
 [o1 12 (.load true 2 (tm 1)),
 o1 13 (.bslice false 1 2 [(.str []),(.str [])] [(0,(1,(.av (.str [97])))),(1,(1,(.av (.str [65]))))]),
 o1 14 (.build [(.str []),(.sl [] 0 (some 0))] [(0,(1,(.av (.str [99,110])))),(1,(1,(tm 13)))]),
 o1 15 (.bslice false 2 1 [(.str []),(.sl [] 0 (some 0))] [(0,(2,(tm 14)))]),
 o1 16 (.call 26 [(tm 12),(tm 15)]),
 o1 11 (.mv (tm 16)),
 o1 17 (.extract (tm 11) 0),
 o1 18 (.extract (tm 11) 1),
 o1 2 (.mv (tm 17)),
 o1 3 (.mv (tm 18))]
def sn:List SOp :=
 [o1 20 (.load true 2 (tm 1)),
 o1 21 (.build [(.int .i64 0),(.str []),(.sl [] 0 (some 0))] [(0,(1,(iv 1))),(1,(1,(.av (.str [100,101,115,99,114,105,112,116,105,111,110]))))]),
 o1 22 (.bslice false 3 1 [(.int .i64 0),(.str []),(.sl [] 0 (some 0))] [(0,(3,(tm 21)))]),
 o1 23 (.call 24 [(tm 20),(.av (.sl [] 0 (some 0))),(tm 22)]),
 o1 19 (.mv (tm 23)),
 o1 24 (.extract (tm 19) 0),
 o1 25 (.extract (tm 19) 1),
 o1 4 (.mv (tm 24)),
 o1 5 (.mv (tm 25))]
def sj:List SOp :=
 [o1 27 (.load true 2 (tm 1)),
 o1 28 (.build [(.int .i64 0),(.str []),(.sl [] 0 (some 0))] [(0,(1,(iv 2))),(1,(1,(.av (.str [100,101,115,99,114,105,112,116,105,111,110]))))]),
 o1 29 (.bslice false 3 1 [(.int .i64 0),(.str []),(.sl [] 0 (some 0))] [(0,(3,(tm 28)))]),
 o1 30 (.call 24 [(tm 27),(.av (.sl [] 0 (some 0))),(tm 29)]),
 o1 26 (.mv (tm 30)),
 o1 31 (.extract (tm 26) 0),
 o1 32 (.extract (tm 26) 1),
 o1 6 (.mv (tm 31)),
 o1 7 (.mv (tm 32))]
def si:List SOp :=
 [o1 34 (.load true 2 (tm 1)),
 o1 35 (.bslice false 1 2 [(.str []),(.str [])] [(0,(1,(.av (.str [98])))),(1,(1,(.av (.str [65]))))]),
 o1 36 (.build [(.str []),(.sl [] 0 (some 0))] [(0,(1,(.av (.str [83,78])))),(1,(1,(tm 35)))]),
 o1 37 (.bslice false 2 1 [(.str []),(.sl [] 0 (some 0))] [(0,(2,(tm 36)))]),
 o1 38 (.call 26 [(tm 34),(tm 37)]),
 o1 33 (.mv (tm 38)),
 o1 39 (.extract (tm 33) 0),
 o1 40 (.extract (tm 33) 1),
 o1 8 (.mv (tm 39)),
 o1 9 (.mv (tm 40))]
def sg:List SOp :=
 [o1 41 (.mv (tm 3)),
 o1 42 (.bin .eql (tm 41) (iv 20)),
 o1 43 (.mv (tm 42)),
 .grp none 43 true
 [og 44 43 true (.mv (tm 5)),
 og 45 43 true (.bin .eql (tm 44) (iv 16))]
 46 (tm 45),
 o1 47 (.mv (tm 46)),
 .grp none 47 true
 [og 48 47 true (.mv (tm 7)),
 og 49 47 true (.bin .eql (tm 48) (iv 0))]
 50 (tm 49),
 o1 51 (.mv (tm 50)),
 .grp none 51 true
 [og 52 51 true (.mv (tm 9)),
 og 53 51 true (.bin .eql (tm 52) (iv 0))]
 54 (tm 53),
 o1 55 (.mv (tm 54)),
 .grp none 55 true
 [og 56 55 true (.mv (tm 8)),
 og 57 55 true (.len false (tm 56)),
 og 58 55 true (.bin .eql (tm 57) (iv 1))]
 59 (tm 58),
 o1 60 (.mv (tm 59)),
 .grp none 60 true
 [og 61 60 true (.mv (tm 8)),
 og 62 60 true (.iaddr 2 (tm 61) (iv 0)),
 og 63 60 true (.faddr 0 (tm 62)),
 og 64 60 true (.load false 1 (tm 63)),
 og 65 60 true (.bin .eql (tm 64) (.av (.str [115,110])))]
 66 (tm 65),
 o1 67 (.mv (tm 66)),
 .grp none 67 true
 [og 68 67 true (.mv (tm 8)),
 og 69 67 true (.iaddr 2 (tm 68) (iv 0)),
 og 70 67 true (.faddr 1 (tm 69)),
 og 71 67 true (.load false 1 (tm 70)),
 og 72 67 true (.iaddr 1 (tm 71) (iv 0)),
 og 73 67 true (.load false 1 (tm 72)),
 og 74 67 true (.bin .eql (tm 73) (.av (.str [65])))]
 75 (tm 74),
 o1 0 (.mv (tm 75))]
def kQ:aU:=⟨76,(.seq (.sreg su [])
 (.seq (.sreg sr [true,false])
 (.seq (.sreg sq [true,false,false,false,false,false,false,false,false,false])
 (.seq (.sreg sn [true,false,false,false,false,false,false,false,false])
 (.seq (.sreg sj [true,false,false,false,false,false,false,false,false])
 (.seq (.sreg si [true,true,false,false,false,false,false,false,false,false])
 (.seq (.sreg sg [true,false,false,false,false,false,false,false,false,false,false,false,false,false,false])
 .ret))))))),[(.tmp 0)]⟩
attribute [push_cast] su sr sq sn sj si sg
theorem Dt:aW Tryz.prog (fun _ _=>1) 22=some kQ.raw:=by kernel_rfl
set_option maxHeartbeats 8000000
set_option maxRecDepth 100000
theorem VP {ts:List Typ} {cap:Option Nat} {n:List UInt8} (hl:ts.length≤1000000) (hts:∀ t∈ts,a6 t.1) (hn:a6 n) {L:List Blk} {K:AV→List Blk→Prop} (h1:gq ts n=none→K (.int .i64 (-1)) L) (h2:∀ k:Nat,k<ts.length→gq ts n=some (ts.getD k fW)→K (.int .i64 k) L) :
   af Tryz.prog 35 [.sl (b9 ts) ts.length cap,.str n] L K:=by
 replace h1:=hid h1
 replace h2:=hid h2
 refine ai zX (by simp [ju]) ?_
 simp only [ju,ar]
 refine wk ?_
 refine am (fun m T' L'=>∃ k:Nat,m=ts.length - k∧k≤ts.length∧T'=[(8,.int .i64 (k:Int)),(7,.int .i64 ts.length),(0,.sl (b9 ts) ts.length cap),(1,.str n)]∧L=L' ∧
   ∀ j,j<k→¬ ae (ts.getD j fW).1=ae n) (CutS (b:=Nat.le_refl _)) ⟨0,rfl,Nat.zero_le _,rfl,rfl,by simp⟩ ?_
 rintro _ _ L' ⟨k,rfl,hk,rfl,e,hr⟩
 subst e
 replace hr:=hid hr
 by_cases hlt:k<ts.length
 · have g1:(k:Int)<(ts.length:Int):=by omega
   have g2:IntKind.i64.wrap ((k:Int)+1)=(k:Int)+1:=ab (by omega) (by omega)
   have e4:k * 4<(b9 ts).length:=by rw [gG];omega
   have e3:(b9 ts).getD (k * 4) .undef=.str (ts.getD k fW).1:=by
     have h3:=congrArg (fun l=>l[0]?) (iQ hlt)
     simp only [List.getElem?_take_of_lt (show 0<4 by omega),List.getElem?_drop,Nat.add_zero] at h3
     rw [List.getD_eq_getElem?_getD,h3];rfl
   obtain ⟨ty,hty⟩:∃ ty,ts.getD k fW=ty:=⟨_,rfl⟩
   have hm:a6 ty.1:=hts _ (by rw [← hty];simp [hlt])
   rw [hty] at e3
   replace hty:=hid hty
   by_cases hq:ae ty.1=ae n
   · have e:gq ts n=some (ts.getD k fW):=oV (d:=fW) hlt (fun j hj=>decide_eq_false (hr.out j hj)) (by rw [hty.out];exact decide_eq_true hq)
     have h':=hid (h2.out k hlt e)
     have kk1:=@hid _ (fun L K=>aX hm (L:=L) (K:=K))
     have kk2:=@hid _ (fun L K=>aX hn (L:=L) (K:=K))
     refine wk ?_
     exact aa h'.out
   · have kk1:=@hid _ (fun L K=>aX hm (L:=L) (K:=K))
     have kk2:=@hid _ (fun L K=>aX hn (L:=L) (K:=K))
     refine wk ?_
     refine aj _ _ _ (by omega) (CutL (b:=by simp)) ⟨k+1,rfl,hlt,rfl,rfl,fun j hj=>?_⟩
     rcases Nat.lt_or_ge j k with h|h
     · exact hr.out j h
     · have:j=k:=by omega
       subst this;rw [hty.out];exact hq
 · have g1:¬ (k:Int)<(ts.length:Int):=by omega
   have h':=hid (h1.out (List.find?_eq_none.2 fun ty hty=>by
     obtain ⟨j,hj,e⟩:=List.mem_iff_getElem.1 hty
     have:=hr.out j (by omega)
     simpa [hj,e] using this))
   refine wk ?_
   exact aa h'.out
theorem z6 {syn:Int} {v:List UInt8} {L:List Blk} {K:AV→List Blk→Prop} (h:K (.str (cx syn v)) L):af Tryz.prog 53 [.int .i64 syn,.str v] L K:=by
 unfold cx at h
 refine ai Es (by simp [o4]) ?_
 simp only [o4,ar]
 refine wk ?_
 refine DC ?_
 rcases hm:eT syn v with _|m
 all_goals rw [hm] at h
 · replace h:Hid (K (.str []) L):=hid h
   simp only [sP]
   refine sk ?_
   refine wk ?_
   exact aa h.out
 · replace h:Hid (K (.str m) L):=hid h
   simp only [sP]
   refine sk ?_
   refine wk ?_
   exact aa h.out
theorem Vq {syn:Int} {l:List (List UInt8)} {cap:Option Nat} {n:List UInt8} (hl:l.length≤1000000) {L:List Blk} {K:AV→List Blk→Prop} (h:K (.bool (inM syn l n)) L) :
   af Tryz.prog 57 [.int .i64 syn,.sl (l.map AV.str) l.length cap,.str n] L K:=by
 obtain ⟨R,hR⟩:∃ R,inM syn l n=R:=⟨_,rfl⟩
 rw [hR] at h
 replace h:=hid h
 refine ai GC (by simp [An]) ?_
 simp only [An,ar]
 refine wk ?_
 refine am (fun m T' L'=>∃ k:Nat,m=l.length - k∧k≤l.length∧Hid (inM syn (l.drop k) n=R)∧T'=[(11,.int .i64 (k:Int)),(10,.int .i64 l.length),(9,.sl (l.map AV.str) l.length cap),(0,.int .i64 syn),(2,.str n)]∧L=L') (CutS (b:=Nat.le_refl _)) ⟨0,rfl,Nat.zero_le _,hid (by simpa using hR),rfl,rfl⟩ ?_
 rintro _ _ L' ⟨k,rfl,hk,hI,rfl,e⟩
 subst e
 by_cases hlt:k<l.length
 · have g1:(k:Int)<(l.length:Int):=by omega
   have g2:IntKind.i64.wrap ((k:Int)+1)=(k:Int)+1:=ab (by omega) (by omega)
   obtain ⟨v,hv⟩:∃ v,l.getD k []=v:=⟨_,rfl⟩
   have g3:(l.map AV.str).getD k .undef=.str v:=by rw [← hv];simp [hlt]
   have hdr:l.drop k=v::l.drop (k+1):=by rw [List.drop_eq_getElem_cons hlt,← hv];simp [hlt]
   have hI2:=hI.out
   rw [hdr,inM,List.any_cons] at hI2
   clear hv hdr hI hR
   by_cases hq:cx syn v=n
   · rw [decide_eq_true hq,Bool.true_or] at hI2
     have h':=h.out
     rw [← hI2] at h'
     replace h':=hid h'
     clear hI2
     have kk1:=@hid _ @z6
     refine wk ?_
     exact aa h'.out
   · rw [decide_eq_false hq,Bool.false_or] at hI2
     replace hI2:=hid hI2
     have kk1:=@hid _ @z6
     refine wk ?_
     exact aj _ _ _ (by omega) (CutL (b:=by simp)) ⟨k+1,rfl,hlt,hI2,rfl,rfl⟩
 · have hke:k=l.length:=by omega
   subst hke
   have g1:¬ (l.length:Int)<(l.length:Int):=by omega
   have h':=h.out
   rw [← hI.out,List.drop_length] at h'
   replace h':=hid h'
   clear hI hR
   refine wk ?_
   exact aa h'.out
theorem Um {syn:Int} {l:List (List UInt8)} {cap:Option Nat} {v:List UInt8} (hl:l.length≤1000000) {L:List Blk} {K:AV→List Blk→Prop} (h:K (xP (eU syn v false l)) L) :
   af Tryz.prog 63 [.int .i64 syn,.sl (l.map AV.str) l.length cap,.str v] L K:=by
 obtain ⟨R,hR⟩:∃ R,eU syn v false l=R:=⟨_,rfl⟩
 rw [hR] at h
 replace h:=hid h
 refine ai Et (by simp [o5]) ?_
 simp only [o5,ar]
 refine wk ?_
 refine dr (l:=[]) (n:=0) 7 1 rfl (Nat.zero_mul 1).symm ?_
 refine am (fun m T' L'=>∃ (k:Nat) (d:Bool) (u:List (List UInt8)) (C:List AV) (n:Nat),m=l.length - k∧k≤l.length∧n≤k+1∧(d=false→n≤k)∧Hid (C=u.map AV.str∧n=u.length)∧Hid (u++eU syn v d (l.drop k)=R)∧T'=[(13,.int .i64 (k:Int)),(12,.int .i64 l.length),(11,.sl (l.map AV.str) l.length cap),(8,.bool d),(7,.gsl C n L.length 1),(0,.int .i64 syn),(2,.str v)]∧L'=L++[.spare n 1]) (CutS (b:=by simp)) ⟨0,false,[],[],0,rfl,Nat.zero_le _,by simp,by simp,hid ⟨rfl,rfl⟩,hid (by simpa using hR),rfl,rfl⟩ ?_
 rintro _ _ _ ⟨k,d,u,C,n,rfl,hk,hul,hul2,hC,hI,rfl,rfl⟩
 by_cases hlt:k<l.length
 · have g1:(k:Int)<(l.length:Int):=by omega
   have g2:IntKind.i64.wrap ((k:Int)+1)=(k:Int)+1:=ab (by omega) (by omega)
   obtain ⟨x,hx⟩:∃ x,l.getD k []=x:=⟨_,rfl⟩
   have g3:(l.map AV.str).getD k .undef=.str x:=by rw [← hx];simp [hlt]
   have hdr:l.drop k=x::l.drop (k+1):=by rw [List.drop_eq_getElem_cons hlt,← hx];simp [hlt]
   have hI2:=hI.out
   rw [hdr,eU] at hI2
   clear hx hdr hI hR
   have fin:∀ (y:List UInt8),(C++[.str y]=(u++[y]).map AV.str∧n+1=(u++[y]).length):=fun y=>by
     obtain ⟨rfl,rfl⟩:=hC.out
     simp
   replace fin:=hid fin
   replace hI2:=hid hI2
   cases d with
   | true =>
     have hI3:=hI2.out
     rw [if_neg (by simp)] at hI3
     simp only [List.nil_append,Bool.true_or] at hI3
     replace hI3:=hid hI3
     clear hI2
     have kk1:=@hid _ @z6
     refine wk ?_
     refine aj _ _ _ (by omega) (CutL (b:=by simp)) ⟨k+1,true,u++[x],C++[.str x],n+1,rfl,hlt,by omega,by simp,hid (fin.out x),hid (by simpa using hI3.out),rfl,rfl⟩
   | false =>
     have hul3:=hul2 rfl
     repeat' first
       | refine a8 ?_
       | (first|refine aM (by kernel_rfl) ?_|refine aA (by kernel_rfl) ?_|refine aB ?_|refine bV ?_|refine bc (fun _=>?_)|refine au ?_|refine aT ?_|refine z6 ?_|refine aV (z6 ⟨rfl,rfl⟩) (z6 ⟨rfl,rfl⟩) ?_|refine aK (z6 ⟨rfl,rfl⟩) ?_)
         refine sm ?_
       | (first|refine aP (by kernel_rfl) ?_|refine aN ?_|refine aO ?_|refine ba (ax ?_))
         refine sl ?_
       | exact bd
       | first|apply be|apply aQ|apply bf|apply aR|apply bg|apply aS
       | refine aC ?_
       | first|refine aD rfl ?_|refine aE rfl ?_|refine ao rfl ?_ ?_|refine aH rfl (fun _=>?_) (fun _=>?_)|refine aG rfl (fun _=>?_) (fun _=>?_)
       | ((first|refine an (fun _=>?_) (fun _=>?_)|refine aw (fun _=>?_) (fun _=>?_))<;>try refine sm ?_)
       | refine And.intro trivial ?_
       | refine And.intro (by omega) ?_
       | refine aI rfl (fun _=>?_) (fun _=>?_)
       | refine And.intro ?_ ?_
     · rename_i hq
       rw [bytesLess_eq,decide_eq_true_eq] at hq
       have hI3:=hI2.out
       rw [if_pos ⟨rfl,hq⟩,decide_eq_true hq,Bool.or_true] at hI3
       refine aj _ _ _ (by omega) (CutL (b:=by simp)) ⟨k+1,true,u++[v]++[x],C++[.str v]++[.str x],n+1+1,rfl,hlt,by omega,by simp,hid ?_,hid (by simpa using hI3),rfl,rfl⟩
       obtain ⟨rfl,rfl⟩:=hC.out
       simp
     · rename_i hq
       rw [bytesLess_eq,decide_eq_false_iff_not] at hq
       have hI3:=hI2.out
       rw [if_neg (fun e=>hq e.2),decide_eq_false hq] at hI3
       refine aj _ _ _ (by omega) (CutL (b:=by simp)) ⟨k+1,false,u++[x],C++[.str x],n+1,rfl,hlt,by omega,by omega,hid (fin.out x),hid (by simpa using hI3),rfl,rfl⟩
 · have hke:k=l.length:=by omega
   subst hke
   have g1:¬ (l.length:Int)<(l.length:Int):=by omega
   have hI2:=hI.out
   rw [List.drop_length,eU] at hI2
   have e0:AV.frzL (R.map AV.str)=R.map AV.str:=eK R
   have hfin:∀ X:List Blk,Fin L (.sl (R.map AV.str) R.length none) (L++X) K:=fun X=>ad (by simp only [AV.refs,xu]) h.out
   replace hfin:=hid hfin
   cases d with
   | true =>
     rw [if_pos rfl,List.append_nil] at hI2
     subst hI2
     refine wk ?_
     refine bB ?_
     simp only [AV.frz]
     rw [hC.out.1,e0,hC.out.2]
     exact hfin.out _
   | false =>
     rw [if_neg (by simp)] at hI2
     subst hI2
     have hul3:=hul2 rfl
     refine wk ?_
     refine bB ?_
     simp only [AV.frz]
     rw [show C++[AV.str v]=(u++[v]).map AV.str by rw [hC.out.1];simp,e0,show n+1=(u++[v]).length by rw [hC.out.2];simp]
     exact hfin.out _
set_option maxHeartbeats 8000000
set_option maxRecDepth 100000
theorem FD (syn:Int) (v:List UInt8):∀ (l:List (List UInt8)) (d:Bool),(eU syn v d l).length≤l.length+1
 | [],d=>by rw [eU];split<;>simp
 | x::t,d=>by
   rw [eU]
   by_cases h:d=false∧cx syn v<cx syn x
   · rw [if_pos h,decide_eq_true h.2,Bool.or_true,Ab];simp
   · have:=FD syn v t (d || decide (cx syn v<cx syn x))
     rw [if_neg h];simp;omega
theorem Ui {ty:Typ} {l vs:List (List UInt8)} {cap capV:Option Nat} (hl:l.length+vs.length≤1000000) {R:List (List UInt8)×Int} (hR:dp ty.2.1 ty.2.2.1 l vs=R) {L:List Blk} {K:AV→List Blk→Prop} (h:K (.tup [xP R.1,.int .i64 R.2]) L) :
   af Tryz.prog 36 [.agg (tyC ty),.sl (l.map AV.str) l.length cap,.sl (vs.map AV.str) vs.length capV] L K:=by
 replace h:=hid h
 replace hR:=hid hR
 simp only [tyC]
 refine ai Ge (by simp [xa]) ?_
 simp only [xa,ar]
 refine wk ?_
 refine am (fun m T' L'=>∃ (i:Nat) (u:List (List UInt8)) (cu:Option Nat),m=vs.length - i∧i≤vs.length∧u.length≤l.length+i∧Hid (dp ty.2.1 ty.2.2.1 u (vs.drop i)=R)∧T'=[(14,.int .i64 (i:Int)),(13,.int .i64 vs.length),(12,.sl (vs.map AV.str) vs.length capV),(1,.sl (u.map AV.str) u.length cu),(3,.ptr L.length 0)]∧L'=L++[Blk.cells (tyC ty)]) (CutS (b:=by simp)) ⟨0,l,cap,rfl,Nat.zero_le _,Nat.le_refl _,hid (by simpa using hR.out),rfl,rfl⟩ ?_
 rintro _ _ _ ⟨i,u,cu,rfl,hi,hul,hI,rfl,rfl⟩
 simp only [tyC]
 by_cases hlt:i<vs.length
 · have g1:(i:Int)<(vs.length:Int):=by omega
   have g2:IntKind.i64.wrap ((i:Int)+1)=(i:Int)+1:=ab (by omega) (by omega)
   obtain ⟨v,hv⟩:∃ v,vs.getD i []=v:=⟨_,rfl⟩
   have g3:(vs.map AV.str).getD i .undef=.str v:=by rw [← hv];simp [hlt]
   have hdr:vs.drop i=v::vs.drop (i+1):=by rw [List.drop_eq_getElem_cons hlt,← hv];simp [hlt]
   have hI2:=hI.out
   rw [hdr] at hI2
   have hu1:u.length≤1000000:=by omega
   clear hv hdr hI hR
   refine wk ?_
   refine DC ?_
   rcases hn:eT ty.2.1 v with _|n
   · rw [Hx hn] at hI2
     have h':=h.out
     rw [← hI2] at h'
     replace h':=hid h'
     simp only [sP]
     clear hI2 hn
     refine sk ?_
     refine wk ?_
     exact bB (ad rfl h'.out)
   rw [Hw hn] at hI2
   simp only [sP]
   rcases hb:inM ty.2.1 u n with _|_
   rotate_left
   · rw [if_pos hb] at hI2
     have h':=h.out
     rw [← hI2] at h'
     replace h':=hid h'
     clear hI2 hn
     refine sk ?_
     have kk1:=@hid _ (fun L K=>Vq (syn:=ty.2.1) (n:=n) (cap:=cu) hu1 (L:=L) (K:=K))
     refine wk ?_
     exact bB (ad rfl h'.out)
   rw [if_neg (by rw [hb];simp)] at hI2
   obtain ⟨u',hu'⟩:∃ u',eU ty.2.1 v false u=u':=⟨_,rfl⟩
   have hl':=FD ty.2.1 v u false
   rw [hu'] at hI2 hl'
   replace hI2:=hid hI2
   clear hn
   refine sk ?_
   have kk1:=@hid _ (fun L K=>Vq (syn:=ty.2.1) (n:=n) (cap:=cu) hu1 (L:=L) (K:=K))
   have kk2:=@hid _ (fun L K=>Um (syn:=ty.2.1) (v:=v) (cap:=cu) hu1 (L:=L) (K:=K))
   refine wk ?_
   exact aj _ _ _ (by omega) (CutL (b:=by simp)) ⟨i+1,u',none,rfl,hlt,by omega,hI2,rfl,rfl⟩
 · have hke:i=vs.length:=by omega
   subst hke
   have g1:¬ (vs.length:Int)<(vs.length:Int):=by omega
   have hI2:=hI.out
   rw [List.drop_length,dp] at hI2
   by_cases hs:ty.2.2.1=true∧1<u.length
   · rw [if_pos hs] at hI2
     have h':=h.out
     rw [← hI2] at h'
     replace h':=hid h'
     obtain ⟨hs1,hs2⟩:=hs
     have g3:(1:Int)<(u.length:Int):=by omega
     clear hI hI2 hR hs2
     refine wk ?_
     exact bB (ad rfl h'.out)
   · rw [if_neg hs] at hI2
     have g3:(ty.2.2.1 && decide ((1:Int)<(u.length:Int)))=false:=by
       rcases hsg:ty.2.2.1 with _|_
       · rfl
       · simp only [Bool.true_and,decide_eq_false_iff_not]
         intro e
         exact hs ⟨hsg,by omega⟩
     have h':=h.out
     rw [← hI2] at h'
     replace h':=hid h'
     clear hI hI2 hR hs
     refine wk ?_
     refine bB (ad ?_ ?_)
     · simp only [AV.frz,AV.frzL,eK,AV.refs,AV.refsL,xu];rfl
     · simp only [AV.frz,AV.frzL,eK];exact h'.out
theorem Lz {l:List Atr} {cap:Option Nat} {n:List UInt8} (hl:l.length≤1000000) (hz:∀ a∈l,a6 a.1∧a.2.length≤1000000) (hn:a6 n) {L:List Blk} {K:AV→List Blk→Prop} (h:K (xP (eB l n)) L) :
   af Tryz.prog 29 [.sl (a7 l) l.length cap,.str n] L K:=by
 obtain ⟨R,hR⟩:∃ R,eB l n=R:=⟨_,rfl⟩
 rw [hR] at h
 replace h:=hid h
 replace hR:=hid hR
 refine ai CD (by simp [jt]) ?_
 simp only [jt,ar]
 refine wk ?_
 refine am (fun m T' L'=>∃ (k:Nat) (X:List Blk),m=l.length - k∧k≤l.length∧Hid (eB (l.drop k) n=R)∧T'=[(9,.int .i64 (k:Int)),(8,.int .i64 l.length),(7,.sl (a7 l) l.length cap),(1,.str n)]∧L'=L++X) (CutS (b:=by simp)) ⟨0,[],rfl,Nat.zero_le _,hid (by simpa using hR.out),rfl,by simp⟩ ?_
 rintro _ _ _ ⟨k,X,rfl,hk,hI,rfl,rfl⟩
 by_cases hlt:k<l.length
 · have g1:(k:Int)<(l.length:Int):=by omega
   have g2:IntKind.i64.wrap ((k:Int)+1)=(k:Int)+1:=ab (by omega) (by omega)
   have e3:=iW hlt
   have e4:k * 2+2≤(a7 l).length:=by rw [im];omega
   obtain ⟨⟨nm,vs⟩,ha⟩:∃ a,l.getD k ([],[])=a:=⟨_,rfl⟩
   have hdr:l.drop k=(nm,vs)::l.drop (k+1):=by rw [List.drop_eq_getElem_cons hlt,← ha];simp [hlt]
   obtain ⟨hnm,hvs⟩:=hz (nm,vs) (by rw [← ha];simp [hlt])
   simp only at hnm hvs
   rw [ha] at e3
   simp only [atA] at e3
   have hI2:=hI.out
   rw [hdr,eB] at hI2
   simp only at hI2
   clear hI hdr ha hz hR
   by_cases hq:ae nm=ae n
   · rw [if_pos hq] at hI2
     subst hI2
     have e0:AV.frzL (vs.map AV.str)=vs.map AV.str:=eK vs
     have kk1:=@hid _ (fun L K=>aX hnm (L:=L) (K:=K))
     have kk2:=@hid _ (fun L K=>aX hn (L:=L) (K:=K))
     refine wk ?_
     refine bB ?_
     simp only [AV.frz,e0]
     exact ad (by simp only [AV.refs,xu]) h.out
   · rw [if_neg hq] at hI2
     replace hI2:=hid hI2
     have kk1:=@hid _ (fun L K=>aX hnm (L:=L) (K:=K))
     have kk2:=@hid _ (fun L K=>aX hn (L:=L) (K:=K))
     refine wk ?_
     exact aj _ _ _ (by omega) (CutL (b:=by simp)) ⟨k+1,_,rfl,hlt,hI2,rfl,rfl⟩
 · have hke:k=l.length:=by omega
   subst hke
   have g1:¬ (l.length:Int)<(l.length:Int):=by omega
   have hI2:=hI.out
   rw [List.drop_length,eB] at hI2
   subst hI2
   refine wk ?_
   exact bB (ad rfl h.out)
set_option maxHeartbeats 8000000
set_option maxRecDepth 100000
theorem Uc {l:List Atr} {cap capV:Option Nat} {n:List UInt8} {vs:List (List UInt8)} (hl:l.length≤1000000) (hz:∀ a∈l,a6 a.1∧a.2.length≤1000000) (hn:a6 n) {L:List Blk} {K:AV→List Blk→Prop} (h:K (.sl (a7 (fp n vs vs.isEmpty l)) (fp n vs vs.isEmpty l).length none) L) :
   af Tryz.prog 37 [.sl (a7 l) l.length cap,.str n,.sl (vs.map AV.str) vs.length capV] L K:=by
 obtain ⟨R,hR⟩:∃ R,fp n vs vs.isEmpty l=R:=⟨_,rfl⟩
 rw [hR] at h
 replace h:=hid h
 obtain ⟨d0,hd0⟩:∃ d,vs.isEmpty=d:=⟨_,rfl⟩
 have hd1:decide ((vs.length:Int)=0)=d0:=by rw [← hd0];cases vs<;>simp;omega
 rw [hd0] at hR
 replace hR:=hid hR
 have ev:AV.frzL (vs.map AV.str)=vs.map AV.str:=eK vs
 replace hd0:=hid hd0
 refine ai Gf (by simp [xb]) ?_
 simp only [xb,ar]
 refine wk ?_
 refine dr (l:=[]) (n:=0) 7 2 rfl (Nat.zero_mul 2).symm ?_
 refine am (fun m T' L'=>∃ (k:Nat) (d:Bool) (u:List Atr) (C:List AV) (z:Nat) (X:List Blk),m=l.length - k∧k≤l.length∧z≤k+1∧(d=false→z≤k)∧Hid (C=a7 u∧z=u.length)∧Hid (u++fp n vs d (l.drop k)=R)∧T'=[(16,.int .i64 (k:Int)),(15,.int .i64 l.length),(14,.sl (a7 l) l.length cap),(8,.bool d),(7,.gsl C z L.length 2),(1,.str n),(2,.sl (vs.map AV.str) vs.length capV)]∧L'=L++(.spare z 2::X)) (CutS (b:=by simp)) ⟨0,d0,[],[],0,[],rfl,Nat.zero_le _,by simp,by simp,hid ⟨rfl,rfl⟩,hid (by simpa using hR.out),rfl,rfl⟩ ?_
 rintro _ _ _ ⟨k,d,u,C,z,X,rfl,hk,hul,hul2,hC,hI,rfl,rfl⟩
 by_cases hlt:k<l.length
 · have g1:(k:Int)<(l.length:Int):=by omega
   have g2:IntKind.i64.wrap ((k:Int)+1)=(k:Int)+1:=ab (by omega) (by omega)
   have e3:=iW hlt
   have e4:k * 2+2≤(a7 l).length:=by rw [im];omega
   obtain ⟨⟨nm,ws⟩,ha⟩:∃ a,l.getD k ([],[])=a:=⟨_,rfl⟩
   have hdr:l.drop k=(nm,ws)::l.drop (k+1):=by rw [List.drop_eq_getElem_cons hlt,← ha];simp [hlt]
   obtain ⟨hnm,hws⟩:=hz (nm,ws) (by rw [← ha];simp [hlt])
   simp only at hnm hws
   rw [ha] at e3
   simp only [atA] at e3
   have ew:AV.frzL (ws.map AV.str)=ws.map AV.str:=eK ws
   have hI2:=hI.out
   rw [hdr,fp] at hI2
   simp only at hI2
   have fin:∀ (C':List AV) (u':List Atr) (z':Nat) (a:Atr),C'=a7 u'∧z'=u'.length→C'++[.str a.1,.sl (a.2.map AV.str) a.2.length none]=a7 (u'++[a])∧z'+1=(u'++[a]).length:=fun C' u' z' a e=>by
     obtain ⟨rfl,rfl⟩:=e
     simp [CK,a7]
   replace fin:=hid fin
   replace hd1:=hid hd1
   clear hI hdr ha hz hR
   by_cases hx:ae nm<ae n
   · have hq:ae n≠ae nm:=fun e=>by rw [e] at hx;exact List.lt_irrefl _ hx
     have hb:Op.bytesLess (ae n) (ae nm)=false:=by
       rw [bytesLess_eq,decide_eq_false_iff_not]
       exact fun e=>List.lt_irrefl _ (List.lt_trans hx e)
     cases d with
     | true =>
       have hI3:=hI2
       rw [if_neg (fun e=>by cases e.1),if_pos hq] at hI3
       rw [show (true || !decide (ae nm<ae n))=true by simp [hx]] at hI3
       replace hI3:=hid hI3
       clear hI2
       have kk1:=@hid _ (fun L K=>aX hn (L:=L) (K:=K))
       have kk2:=@hid _ (fun L K=>aX hnm (L:=L) (K:=K))
       refine wk ?_
       exact aj _ _ _ (by omega) (CutL (b:=by simp)) ⟨k+1,true,u++[(nm,ws)],C++[.str nm,.sl (ws.map AV.str) ws.length none],z+1,_,rfl,hlt,by omega,by simp,hid (fin.out _ _ _ (nm,ws) hC.out),hid (by simpa using hI3.out),rfl,rfl⟩
     | false =>
       have hul3:=hul2 rfl
       have hI3:=hI2
       rw [if_neg (fun e=>e.2 hx),if_pos hq] at hI3
       rw [show (false || !decide (ae nm<ae n))=false by simp [hx]] at hI3
       replace hI3:=hid hI3
       clear hI2
       have kk1:=@hid _ (fun L K=>aX hn (L:=L) (K:=K))
       have kk2:=@hid _ (fun L K=>aX hnm (L:=L) (K:=K))
       refine wk ?_
       exact aj _ _ _ (by omega) (CutL (b:=by simp)) ⟨k+1,false,u++[(nm,ws)],C++[.str nm,.sl (ws.map AV.str) ws.length none],z+1,_,rfl,hlt,by omega,by simp;omega,hid (fin.out _ _ _ (nm,ws) hC.out),hid (by simpa using hI3.out),rfl,rfl⟩
   · by_cases hq:ae n=ae nm
     · have hb:Op.bytesLess (ae n) (ae nm)=false:=by
         rw [bytesLess_eq,decide_eq_false_iff_not,hq]
         exact List.lt_irrefl _
       cases d with
       | true =>
         have hI3:=hI2
         rw [if_neg (fun e=>by cases e.1),if_neg (fun e=>e hq)] at hI3
         rw [show (true || !decide (ae nm<ae n))=true by simp [hx]] at hI3
         replace hI3:=hid hI3
         clear hI2
         have kk1:=@hid _ (fun L K=>aX hn (L:=L) (K:=K))
         have kk2:=@hid _ (fun L K=>aX hnm (L:=L) (K:=K))
         refine wk ?_
         exact aj _ _ _ (by omega) (CutL (b:=by simp)) ⟨k+1,true,u,C,z,_,rfl,hlt,by omega,by simp,hid hC.out,hid (by simpa using hI3.out),rfl,rfl⟩
       | false =>
         have hul3:=hul2 rfl
         have hI3:=hI2
         rw [if_pos ⟨rfl,hx⟩,if_neg (fun e=>e hq)] at hI3
         rw [show (false || !decide (ae nm<ae n))=true by simp [hx]] at hI3
         replace hI3:=hid hI3
         clear hI2
         have kk1:=@hid _ (fun L K=>aX hn (L:=L) (K:=K))
         have kk2:=@hid _ (fun L K=>aX hnm (L:=L) (K:=K))
         refine wk ?_
         exact aj _ _ _ (by omega) (CutL (b:=by simp)) ⟨k+1,true,u++[(n,vs)],C++[.str n,.sl (vs.map AV.str) vs.length none],z+1,_,rfl,hlt,by omega,by simp,hid (fin.out _ _ _ (n,vs) hC.out),hid (by simpa using hI3.out),rfl,rfl⟩
     · have hb:Op.bytesLess (ae n) (ae nm)=true:=by
         rw [bytesLess_eq,decide_eq_true_eq]
         exact (List.le_iff_lt_or_eq.1 (List.not_lt.1 hx)).resolve_right hq
       cases d with
       | true =>
         have hI3:=hI2
         rw [if_neg (fun e=>by cases e.1),if_pos hq] at hI3
         rw [show (true || !decide (ae nm<ae n))=true by simp [hx]] at hI3
         replace hI3:=hid hI3
         clear hI2
         have kk1:=@hid _ (fun L K=>aX hn (L:=L) (K:=K))
         have kk2:=@hid _ (fun L K=>aX hnm (L:=L) (K:=K))
         refine wk ?_
         exact aj _ _ _ (by omega) (CutL (b:=by simp)) ⟨k+1,true,u++[(nm,ws)],C++[.str nm,.sl (ws.map AV.str) ws.length none],z+1,_,rfl,hlt,by omega,by simp,hid (fin.out _ _ _ (nm,ws) hC.out),hid (by simpa using hI3.out),rfl,rfl⟩
       | false =>
         have hul3:=hul2 rfl
         have hI3:=hI2
         rw [if_pos ⟨rfl,hx⟩,if_pos hq] at hI3
         rw [show (false || !decide (ae nm<ae n))=true by simp [hx]] at hI3
         replace hI3:=hid hI3
         clear hI2
         have kk1:=@hid _ (fun L K=>aX hn (L:=L) (K:=K))
         have kk2:=@hid _ (fun L K=>aX hnm (L:=L) (K:=K))
         refine wk ?_
         exact aj _ _ _ (by omega) (CutL (b:=by simp)) ⟨k+1,true,u++[(n,vs)]++[(nm,ws)],C++[.str n,.sl (vs.map AV.str) vs.length none]++[.str nm,.sl (ws.map AV.str) ws.length none],z+1+1,_,rfl,hlt,by omega,by simp,hid (fin.out _ _ _ (nm,ws) (fin.out _ _ _ (n,vs) hC.out)),hid (by simpa using hI3.out),rfl,rfl⟩
 · have hke:k=l.length:=by omega
   subst hke
   have g1:¬ (l.length:Int)<(l.length:Int):=by omega
   have hI2:=hI.out
   rw [List.drop_length,fp] at hI2
   have e0:=CJ R
   have hfin:∀ X:List Blk,Fin L (.sl (a7 R) R.length none) (L++X) K:=fun X=>ad (by simp only [AV.refs,oz]) h.out
   replace hfin:=hid hfin
   replace hd1:=hid hd1
   clear hI hR
   cases d with
   | true =>
     rw [if_pos rfl,List.append_nil] at hI2
     subst hI2
     refine wk ?_
     refine bB ?_
     simp only [AV.frz]
     rw [hC.out.1,e0,hC.out.2]
     exact hfin.out _
   | false =>
     rw [if_neg (by simp)] at hI2
     subst hI2
     have hul3:=hul2 rfl
     refine wk ?_
     refine bB ?_
     simp only [AV.frz]
     rw [show C++[AV.str n,.sl (vs.map AV.str) vs.length none]=a7 (u++[(n,vs)]) by rw [hC.out.1,CK];simp [a7],e0,show z+1=(u++[(n,vs)]).length by rw [hC.out.2];simp]
     exact hfin.out _
set_option maxHeartbeats 8000000
set_option maxRecDepth 100000
theorem Ra {ts:List Typ} {capT:Option Nat} {c2:List AV} {n2:Nat} {cap2:Option Nat} {list:List Atr} {cap:Option Nat} (hts:Ql ts) (hl:list.length≤100) (hv:∀ a∈list,a6 a.1∧a.2.length≤9000) {R:List Atr×Int} (hR:wV ts [] list=R) {L:List Blk} {K:AV→List Blk→Prop} (h:K (.tup [.sl (a7 R.1) R.1.length none,.int .i64 R.2]) L) :
   af Tryz.prog 11 [.agg [.sl (b9 ts) ts.length capT,.sl c2 n2 cap2],.sl (a7 list) list.length cap] L K:=by
 replace h:=hid h
 replace hR:=hid hR
 refine ai Ew (by simp [o8]) ?_
 simp only [o8,ar]
 refine wk ?_
 obtain ⟨sC,hsC⟩:∃ s,AV.sl c2 n2 cap2=s:=⟨_,rfl⟩
 rw [hsC]
 refine am (fun m T' L'=>∃ (i:Nat) (out:List Atr) (co:Option Nat) (X:List Blk),m=list.length - i∧i≤list.length∧out.length≤i∧Hid (wV ts out (list.drop i)=R)∧Hid (∀ a∈out,a6 a.1∧a.2.length≤9000 * i)∧T'=[(14,.int .i64 (i:Int)),(13,.int .i64 list.length),(12,.sl (a7 list) list.length cap),(6,.sl (a7 out) out.length co),(2,.ptr L.length 0)]∧L'=L++(.cells [.sl (b9 ts) ts.length capT,sC]::X)) (CutS (b:=by simp)) ⟨0,[],some 0,[],rfl,Nat.zero_le _,Nat.le_refl _,hid (by simpa using hR.out),hid (by simp),rfl,by simp⟩ ?_
 rintro _ _ _ ⟨i,out,co,X,rfl,hi,hol,hI,ho,rfl,rfl⟩
 by_cases hlt:i<list.length
 · have g1:(i:Int)<(list.length:Int):=by omega
   have g2:IntKind.i64.wrap ((i:Int)+1)=(i:Int)+1:=ab (by omega) (by omega)
   have e3:=iW hlt
   have e4:i * 2+2≤(a7 list).length:=by rw [im];omega
   obtain ⟨⟨nm,vs⟩,ha⟩:∃ a,list.getD i ([],[])=a:=⟨_,rfl⟩
   have hdr:list.drop i=(nm,vs)::list.drop (i+1):=by rw [List.drop_eq_getElem_cons hlt,← ha];simp [hlt]
   obtain ⟨hnm,hvs⟩:=hv (nm,vs) (by rw [← ha];simp [hlt])
   simp only at hnm hvs
   rw [ha] at e3
   simp only [atA] at e3
   have hI2:=hI.out
   rw [hdr,wV] at hI2
   simp only at hI2
   replace hI2:=hid hI2
   clear hI hdr ha hv hR
   refine wk ?_
   refine VP hts.1 hts.2.1 hnm (fun hty=>?_) (fun t ht hty=>?_)
   · have hI3:=hI2.out
     rw [hty] at hI3
     simp only at hI3
     have h':=h.out
     rw [← hI3] at h'
     replace h':=hid h'
     clear hI2 hI3 hty
     refine sk ?_
     refine wk ?_
     exact bB (ad rfl h'.out)
   · have hI3:=hI2.out
     have e5:=iQ ht
     have e6:t * 4+4≤(b9 ts).length:=by rw [gG];omega
     have e8:(b9 ts).getD (t * 4) .undef=.str (ts.getD t fW).1:=by
       have h3:=congrArg (fun l=>l[0]?) (iQ ht)
       simp only [List.getElem?_take_of_lt (show 0<4 by omega),List.getElem?_drop,Nat.add_zero] at h3
       rw [List.getD_eq_getElem?_getD,h3];rfl
     have g3:¬ (t:Int)<0:=by omega
     have g4:(t:Int)<(ts.length:Int):=by omega
     have g6:t * 4<(b9 ts).length:=by omega
     have htn:=CO hty
     obtain ⟨ty,hte⟩:∃ ty,ts.getD t fW=ty:=⟨_,rfl⟩
     rw [hte] at hty e5 e8 htn
     rw [hty] at hI3
     simp only at hI3
     simp only [tyC] at e5
     by_cases hvn:vs=[]
     · rw [if_pos hvn] at hI3
       have h':=h.out
       rw [← hI3] at h'
       replace h':=hid h'
       subst hvn
       clear hI2 hI3 hty htn hte
       refine sk ?_
       refine wk ?_
       exact bB (ad rfl h'.out)
     rw [if_neg hvn] at hI3
     have g5:¬ (vs.length:Int)=0:=by
       rcases vs with _|⟨x,t⟩
       · exact absurd rfl hvn
       · simp;omega
     obtain ⟨V,hV⟩:∃ V,eB out nm=V:=⟨_,rfl⟩
     have hVl:V.length≤9000 * i:=by rw [← hV];exact JH fun a ha=>(ho.out a ha).2
     rw [hV] at hI3
     obtain ⟨A,hA⟩:∃ A,dp ty.2.1 ty.2.2.1 V vs=A:=⟨_,rfl⟩
     rw [hA] at hI3
     have kk1:Hid (∀ {L:List Blk} {K:AV→List Blk→Prop},K (.sl (V.map AV.str) V.length none) L→af Tryz.prog 29 [.sl (a7 out) out.length co,.str nm] L K):=hid fun q=>Lz (by omega) (fun a ha=>⟨(ho.out a ha).1,by have:=(ho.out a ha).2;omega⟩) hnm (by rw [hV];exact q)
     have kk2:Hid (∀ {L:List Blk} {K:AV→List Blk→Prop},K (.tup [.sl (A.1.map AV.str) A.1.length none,.int .i64 A.2]) L→af Tryz.prog 36 [.agg [.str ty.1,.int .i64 ty.2.1,.bool ty.2.2.1,.bool ty.2.2.2],.sl (V.map AV.str) V.length none,.sl (vs.map AV.str) vs.length none] L K):=hid fun q=>Ui (ty:=ty) (by omega) hA q
     have kk3:Hid (∀ {L:List Blk} {K:AV→List Blk→Prop},K (.sl (a7 (fp ty.1 A.1 A.1.isEmpty out)) (fp ty.1 A.1 A.1.isEmpty out).length none) L→af Tryz.prog 37 [.sl (a7 out) out.length co,.str ty.1,.sl (A.1.map AV.str) A.1.length none] L K):=hid fun q=>Uc (by omega) (fun a ha=>⟨(ho.out a ha).1,by have:=(ho.out a ha).2;omega⟩) (hts.2.1 ty htn.1) q
     obtain ⟨A1,A2⟩:=A
     simp only at kk2 kk3 hI3
     obtain ⟨out',hout'⟩:∃ o,fp ty.1 A1 A1.isEmpty out=o:=⟨_,rfl⟩
     rw [hout'] at kk3 hI3
     clear hI2 hvn hty
     by_cases hc0:A2=0
     · subst hc0
       rw [if_neg (by simp)] at hI3
       have hAl:=CL (by rw [hA]:(dp ty.2.1 ty.2.2.1 V vs).2=0)
       rw [hA] at hAl
       simp only at hAl
       have hol':out'.length≤i+1:=by
         have:=@EM ty.1 A1 A1.isEmpty out
         rw [hout'] at this
         split at this<;>omega
       have ho':∀ a∈out',a6 a.1∧a.2.length≤9000 * (i+1):=fun a ha=>by
         rw [← hout'] at ha
         rcases AP ha with e|e
         · rw [e];exact ⟨hts.2.1 ty htn.1,by simp only;omega⟩
         · have:=ho.out a e
           exact ⟨this.1,by omega⟩
       replace hI3:=hid hI3
       replace ho':=hid ho'
       clear hA hV hout' hAl htn hte
       refine sk ?_
       refine wk ?_
       exact aj _ _ _ (by omega) (CutL (b:=by simp)) ⟨i+1,out',none,_,rfl,hlt,hol',hI3,ho',rfl,rfl⟩
     · rw [if_pos hc0] at hI3
       have h':=h.out
       rw [← hI3] at h'
       replace h':=hid h'
       clear hA hV hout' htn hI3 hte
       refine sk ?_
       refine wk ?_
       exact bB (ad rfl h'.out)
 · have hke:i=list.length:=by omega
   subst hke
   have g1:¬ (list.length:Int)<(list.length:Int):=by omega
   have hI2:=hI.out
   rw [List.drop_length,wV] at hI2
   have h':=h.out
   rw [← hI2] at h'
   replace h':=hid h'
   clear hI hI2 hR hv
   have e0:=CJ out
   refine wk ?_
   refine bB ?_
   simp only [AV.frz,AV.frzL,e0]
   exact ad (by simp only [AV.refs,AV.refsL,oz];rfl) h'.out
set_option maxHeartbeats 8000000
set_option maxRecDepth 100000
theorem M6 {l:List Atr} {cap cap':Option Nat} (hl:l.length≤1000000) (hz:∀ a∈l,a.2.length≤1000000) {L:List Blk} {K:AV→List Blk→Prop} (h:K (.bool true) L) :
   af Tryz.prog 25 [.sl (a7 l) l.length cap,.sl (a7 l) l.length cap'] L K:=by
 replace h:=hid h
 refine ai Ev (by simp [o7]) ?_
 simp only [o7,ar]
 refine wk ?_
 refine am (fun m T' L'=>∃ k:Nat,m=l.length - k∧k≤l.length∧T'=[(14,.int .i64 (k:Int)),(13,.int .i64 l.length),(0,.sl (a7 l) l.length cap),(1,.sl (a7 l) l.length cap')]∧L=L') (CutS (b:=Nat.le_refl _)) ⟨0,rfl,Nat.zero_le _,rfl,rfl⟩ ?_
 rintro _ _ L' ⟨k,rfl,hk,rfl,e⟩
 subst e
 by_cases hlt:k<l.length
 · have g1:(k:Int)<(l.length:Int):=by omega
   have g2:IntKind.i64.wrap ((k:Int)+1)=(k:Int)+1:=ab (by omega) (by omega)
   have e4:k * 2+1<(a7 l).length:=by rw [im];omega
   have e4':k * 2<(a7 l).length:=by omega
   have e5:=Qg hlt
   have e8:(a7 l).getD (k * 2) .undef=.str (l.getD k ([],[])).1:=by
     have h3:=congrArg (fun l=>l[0]?) (iW hlt)
     simp only [List.getElem?_take_of_lt (show 0<2 by omega),List.getElem?_drop,Nat.add_zero] at h3
     rw [List.getD_eq_getElem?_getD,h3];rfl
   obtain ⟨⟨nm,vs⟩,ha⟩:∃ a,l.getD k ([],[])=a:=⟨_,rfl⟩
   have hvs:=hz (nm,vs) (by rw [← ha];simp [hlt])
   simp only at hvs
   rw [ha] at e5 e8
   simp only [xP] at e5 e8
   clear ha
   refine wk ?_
   refine am (fun m T' L'=>∃ j:Nat,m=vs.length - j∧j≤vs.length∧T'=[(49,.int .i64 (j:Int)),(48,.int .i64 vs.length),(5,.int .i64 (k:Int)),(14,.int .i64 (k:Int)),(13,.int .i64 l.length),(0,.sl (a7 l) l.length cap),(1,.sl (a7 l) l.length cap')]∧L=L') (CutS (b:=Nat.le_refl _)) ⟨0,rfl,Nat.zero_le _,rfl,rfl⟩ ?_
   rintro _ _ L' ⟨j,rfl,hj,rfl,e⟩
   subst e
   by_cases hjl:j<vs.length
   · have j1:(j:Int)<(vs.length:Int):=by omega
     have j2:IntKind.i64.wrap ((j:Int)+1)=(j:Int)+1:=ab (by omega) (by omega)
     obtain ⟨v,hv⟩:∃ v,vs.getD j []=v:=⟨_,rfl⟩
     have g3:(vs.map AV.str).getD j .undef=.str v:=by rw [← hv];simp [hjl]
     clear hv
     refine wk ?_
     exact aj _ _ _ (by omega) (CutL (b:=by simp)) ⟨j+1,rfl,hjl,rfl,rfl⟩
   · have j1:¬ (j:Int)<(vs.length:Int):=by omega
     refine wk ?_
     exact aj _ _ _ (by omega) (CutL (b:=by simp)) ⟨k+1,rfl,hlt,rfl,rfl⟩
 · have g1:¬ (k:Int)<(l.length:Int):=by omega
   refine wk ?_
   exact aa h.out
def HY (n:Nat) (a:Atr):Bool:=decide (n≤60) && decide (a.2.length≤60) && a.2.all fun v=>decide (v.length≤5000)
def Pt (l:List Atr):Bool:=l.all (HY l.length)
theorem Tg {l:List Atr} (h:Pt l=true):l.length≤60∧∀ a∈l,a.2.length≤60∧∀ v∈a.2,v.length≤5000:=by
 simp only [Pt,List.all_eq_true,HY,Bool.and_eq_true,decide_eq_true_eq] at h
 refine ⟨?_,fun a ha=>⟨(h a ha).1.2,(h a ha).2⟩⟩
 rcases l with _|⟨x,t⟩
 · simp
 · exact (h x (by simp)).1.1
theorem Vt {l:List Atr} {cap:Option Nat} (hl:l.length≤2000000) (hz:∀ a∈l,a.2.length≤2000000) {L:List Blk} {K:AV→List Blk→Prop} (h:K (.bool (Pt l)) L) :
   af Tryz.prog 9 [.sl (a7 l) l.length cap] L K:=by
 obtain ⟨R,hR⟩:∃ R,l.all (HY l.length)=R:=⟨_,rfl⟩
 rw [Pt,hR] at h
 replace h:=hid h
 replace hR:=hid hR
 refine ai Gk (by simp [xg]) ?_
 simp only [xg,ar]
 refine wk ?_
 refine am (fun m T' L'=>∃ (k:Nat) (X:List Blk),m=l.length - k∧k≤l.length∧Hid ((l.drop k).all (HY l.length)=R)∧T'=[(9,.int .i64 (k:Int)),(8,.int .i64 l.length),(7,.sl (a7 l) l.length cap),(0,.sl (a7 l) l.length cap)]∧L'=L++X) (CutS (b:=by simp)) ⟨0,[],rfl,Nat.zero_le _,hid (by simpa using hR.out),rfl,by simp⟩ ?_
 rintro _ _ _ ⟨k,X,rfl,hk,hI,rfl,rfl⟩
 by_cases hlt:k<l.length
 · have g1:(k:Int)<(l.length:Int):=by omega
   have g2:IntKind.i64.wrap ((k:Int)+1)=(k:Int)+1:=ab (by omega) (by omega)
   have e3:=iW hlt
   have e4:k * 2+2≤(a7 l).length:=by rw [im];omega
   obtain ⟨⟨nm,vs⟩,ha⟩:∃ a,l.getD k ([],[])=a:=⟨_,rfl⟩
   have hdr:l.drop k=(nm,vs)::l.drop (k+1):=by rw [List.drop_eq_getElem_cons hlt,← ha];simp [hlt]
   have hvs:=hz (nm,vs) (by rw [← ha];simp [hlt])
   simp only at hvs
   rw [ha] at e3
   simp only [atA] at e3
   have hI2:=hI.out
   rw [hdr,List.all_cons] at hI2
   have no:HY l.length (nm,vs)=false→K (.bool false) L:=fun e=>by
     rw [e,Bool.false_and] at hI2
     have:=h.out
     rwa [← hI2] at this
   replace no:=hid no
   clear hI hdr ha hz hR
   by_cases h1:(60:Int)<(l.length:Int)
   · have h':=hid (no.out (by simp [HY];omega))
     clear hI2
     refine wk ?_
     exact ad rfl h'.out
   by_cases h2:(60:Int)<(vs.length:Int)
   · have h':=hid (no.out (by simp [HY];omega))
     clear hI2
     refine wk ?_
     exact ad rfl h'.out
   obtain ⟨rv,hrv⟩:∃ r,vs.all (fun v=>decide (v.length≤5000))=r:=⟨_,rfl⟩
   have hfe:HY l.length (nm,vs)=rv:=by
     rw [HY,hrv,decide_eq_true (by omega),decide_eq_true (by simp only;omega)];rfl
   rw [hfe] at hI2
   replace hI2:=hid hI2
   replace hrv:=hid hrv
   replace no:=hid (fun e:rv=false=>no.out (hfe.trans e))
   clear hfe
   refine wk ?_
   refine am (fun m T' L'=>∃ j:Nat,m=vs.length - j∧j≤vs.length∧Hid ((vs.drop j).all (fun v=>decide (v.length≤5000))=rv)∧T'=[(25,.int .i64 (j:Int)),(24,.int .i64 vs.length),(23,.sl (vs.map AV.str) vs.length none),(9,.int .i64 (k:Int)),(8,.int .i64 l.length),(7,.sl (a7 l) l.length cap),(0,.sl (a7 l) l.length cap)]∧L'=L++(X++[.cells [.str nm,.sl (vs.map AV.str) vs.length none]])) (CutS (b:=by simp)) ⟨0,rfl,Nat.zero_le _,hid (by simpa using hrv.out),rfl,by simp⟩ ?_
   rintro _ _ _ ⟨j,rfl,hj,hJ,rfl,rfl⟩
   by_cases hjl:j<vs.length
   · have j1:(j:Int)<(vs.length:Int):=by omega
     have j2:IntKind.i64.wrap ((j:Int)+1)=(j:Int)+1:=ab (by omega) (by omega)
     obtain ⟨v,hv⟩:∃ v,vs.getD j []=v:=⟨_,rfl⟩
     have g3:(vs.map AV.str).getD j .undef=.str v:=by rw [← hv];simp [hjl]
     have hdr:vs.drop j=v::vs.drop (j+1):=by rw [List.drop_eq_getElem_cons hjl,← hv];simp [hjl]
     have hJ2:=hJ.out
     rw [hdr,List.all_cons] at hJ2
     clear hv hdr hJ
     by_cases h3:(5000:Int)<(v.length:Int)
     · have h':=hid (no.out (by rw [← hJ2,decide_eq_false (by omega),Bool.false_and]))
       clear hJ2
       refine wk ?_
       exact ad rfl h'.out
     · rw [decide_eq_true (by omega),Bool.true_and] at hJ2
       replace hJ2:=hid hJ2
       refine wk ?_
       exact aj _ _ _ (by omega) (CutL (b:=by simp)) ⟨j+1,rfl,hjl,hJ2,rfl,rfl⟩
   · have j1:¬ (j:Int)<(vs.length:Int):=by omega
     have hJ2:=hJ.out
     rw [List.drop_eq_nil_of_le (by omega),List.all_nil] at hJ2
     have hI3:=hI2.out
     rw [← hJ2,Bool.true_and] at hI3
     replace hI3:=hid hI3
     clear hJ hJ2
     refine wk ?_
     exact aj _ _ _ (by omega) (CutL (b:=by simp)) ⟨k+1,_,rfl,hlt,hI3,rfl,rfl⟩
 · have hke:k=l.length:=by omega
   subst hke
   have g1:¬ (l.length:Int)<(l.length:Int):=by omega
   have hI2:=hI.out
   rw [List.drop_length,List.all_nil] at hI2
   have h':=h.out
   rw [← hI2] at h'
   replace h':=hid h'
   clear hI hI2 hR
   refine wk ?_
   exact ad rfl h'.out
end Go.Proofs.YtohflefnbajajaaGreatDoor.Av
