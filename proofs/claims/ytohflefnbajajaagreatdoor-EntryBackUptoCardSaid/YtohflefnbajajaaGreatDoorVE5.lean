/- Joined texts of the walk, made small by a program. -/
import Derived.Test.YtohflefnbajajaaGreatDoorVP4
import Derived.Test.YtohflefnbajajaaGreatDoorRows
import Derived.KernelRfl
import Derived.Test.YtohflefnbajajaaGreatDoorVE4
import Derived.Test.YtohflefnbajajaaGreatDoorVE7
set_option linter.unusedSimpArgs false
set_option linter.unusedVariables false
set_option maxRecDepth 100000
namespace Go.Proofs.YtohflefnbajajaaGreatDoor.Av
open Go
def tc:List SOp :=
 [o1 6 (.mv (.av (.sl [] 0 (some 0))))]
def sZ:List SOp :=
 [o1 9 (.mv (tm 2)),
 o1 10 (.len false (tm 9)),
 o1 11 (.mv (iv 0))]
def sW:List SOp :=
 [o1 12 (.bin .lss (tm 11) (tm 10))]
def sV:List SOp :=
 [o1 13 (.iaddr 1 (tm 9) (tm 11)),
 o1 14 (.load false 1 (tm 13)),
 o1 8 (.mv (tm 14))]
def sU:List SOp :=
 [o1 15 (.mv (tm 0)),
 o1 16 (.mv (tm 8)),
 o1 17 (.mv (tm 1)),
 o1 18 (.build [(.str []),(.int .i64 0),(.bool false),(.bool false)] [(0,(1,(tm 16))),(1,(1,(tm 17)))]),
 o1 19 (.bslice false 4 1 [(.str []),(.int .i64 0),(.bool false),(.bool false)] [(0,(4,(tm 18)))]),
 o1 20 (.app 1 4 32 [(.str []),(.int .i64 0),(.bool false),(.bool false)] (tm 15) (tm 19)),
 o1 0 (.mv (tm 20))]
def sh:List SOp :=
 [o1 21 (.bin .add (tm 11) (iv 1)),
 o1 11 (.mv (tm 21))]
def sf:List SOp :=
 [o1 22 (.mv (tm 0)),
 o1 6 (.mv (tm 22))]
def iR:aU:=⟨23,(.seq (.sreg tc [])
 (.seq (.seq (.sreg sZ [])
 (.block 0 (.loop (.seq (.sreg sW [])
 (.seq (.cond (tm 12) .skip
 (.exit 0))
 (.seq (.block 1 (.seq (.sreg sV [true,false,false])
 (.sreg sU [true,false,false,false,false,false,false])))
 (.sreg sh [true,false])))))))
 (.seq (.sreg sf [true,false])
 .ret))),[(.tmp 6)]⟩
attribute [push_cast] tc sZ sW sV sU sh sf
theorem Mn:aW Tryz.prog (fun _ _=>1) 38=some iR.raw:=by kernel_rfl
def Dd:List SOp :=
 [o1 0 (.alloc [(.sl [] 0 (some 0)),(.sl [] 0 (some 0))])]
def Dc:List SOp :=
 [o1 1 (.alloc [(.sl [] 0 (some 0)),(.sl [] 0 (some 0))])]
def Db:List SOp :=
 [o1 5 (.faddr 0 (tm 1)),
 o1 6 (.load false 1 (tm 5)),
 o1 7 (.bslice false 1 1 [(.str [])] [(0,(1,(.av (.str [111,98,106,101,99,116,67,108,97,115,115]))))]),
 o1 8 (.call 38 [(tm 6),(iv 3),(tm 7)]),
 o1 9 (.faddr 0 (tm 1)),
 o0 (.store 1 (tm 9) (tm 8))]
def Da:List SOp :=
 [o1 10 (.faddr 0 (tm 1)),
 o1 11 (.load false 1 (tm 10)),
 o1 12 (.bslice false 1 4 [(.str []),(.str []),(.str []),(.str [])] [(0,(1,(.av (.str [99,110])))),(1,(1,(.av (.str [115,110])))),(2,(1,(.av (.str [111,117])))),(3,(1,(.av (.str [111]))))]),
 o1 13 (.call 38 [(tm 11),(iv 1),(tm 12)]),
 o1 14 (.faddr 0 (tm 1)),
 o0 (.store 1 (tm 14) (tm 13))]
def C7:List SOp :=
 [o1 15 (.faddr 0 (tm 1)),
 o1 16 (.load false 1 (tm 15)),
 o1 17 (.bslice false 1 3 [(.str []),(.str []),(.str [])] [(0,(1,(.av (.str [100,99])))),(1,(1,(.av (.str [117,105,100])))),(2,(1,(.av (.str [109,97,105,108]))))]),
 o1 18 (.call 38 [(tm 16),(iv 3),(tm 17)]),
 o1 19 (.faddr 0 (tm 1)),
 o0 (.store 1 (tm 19) (tm 18))]
def CZ:List SOp :=
 [o1 20 (.faddr 0 (tm 1)),
 o1 21 (.load false 1 (tm 20)),
 o1 22 (.bslice false 1 1 [(.str [])] [(0,(1,(.av (.str [100,101,115,99,114,105,112,116,105,111,110]))))]),
 o1 23 (.call 38 [(tm 21),(iv 1),(tm 22)]),
 o1 24 (.faddr 0 (tm 1)),
 o0 (.store 1 (tm 24) (tm 23))]
def CY:List SOp :=
 [o1 25 (.faddr 0 (tm 1)),
 o1 26 (.load false 1 (tm 25)),
 o1 27 (.bslice false 1 1 [(.str [])] [(0,(1,(.av (.str [109,101,109,98,101,114]))))]),
 o1 28 (.call 38 [(tm 26),(iv 6),(tm 27)]),
 o1 29 (.faddr 0 (tm 1)),
 o0 (.store 1 (tm 29) (tm 28))]
def CV:List SOp :=
 [o1 30 (.faddr 0 (tm 1)),
 o1 31 (.load false 1 (tm 30)),
 o1 32 (.bslice false 1 1 [(.str [])] [(0,(1,(.av (.str [117,115,101,114,80,97,115,115,119,111,114,100]))))]),
 o1 33 (.call 38 [(tm 31),(iv 7),(tm 32)]),
 o1 34 (.faddr 0 (tm 1)),
 o0 (.store 1 (tm 34) (tm 33))]
def CU:List SOp :=
 [o1 35 (.faddr 0 (tm 1)),
 o1 36 (.load false 1 (tm 35)),
 o1 37 (.build [(.str []),(.int .i64 0),(.bool false),(.bool false)] [(0,(1,(.av (.str [101,109,112,108,111,121,101,101,78,117,109,98,101,114])))),(1,(1,(iv 4))),(2,(1,(.av (.bool true))))]),
 o1 38 (.bslice false 4 1 [(.str []),(.int .i64 0),(.bool false),(.bool false)] [(0,(4,(tm 37)))]),
 o1 39 (.app 1 4 32 [(.str []),(.int .i64 0),(.bool false),(.bool false)] (tm 36) (tm 38)),
 o1 40 (.faddr 0 (tm 1)),
 o0 (.store 1 (tm 40) (tm 39))]
def CR:List SOp :=
 [o1 41 (.faddr 0 (tm 1)),
 o1 42 (.load false 1 (tm 41)),
 o1 43 (.build [(.str []),(.int .i64 0),(.bool false),(.bool false)] [(0,(1,(.av (.str [97,99,116,105,118,101])))),(1,(1,(iv 5))),(2,(1,(.av (.bool true))))]),
 o1 44 (.bslice false 4 1 [(.str []),(.int .i64 0),(.bool false),(.bool false)] [(0,(4,(tm 43)))]),
 o1 45 (.app 1 4 32 [(.str []),(.int .i64 0),(.bool false),(.bool false)] (tm 42) (tm 44)),
 o1 46 (.faddr 0 (tm 1)),
 o0 (.store 1 (tm 46) (tm 45))]
def xN:List SOp :=
 [o1 47 (.bslice false 1 5 [(.str []),(.str []),(.str []),(.str []),(.str [])] [(0,(1,(.av (.str [99,114,101,97,116,101,100,65,116])))),(1,(1,(.av (.str [99,104,97,110,103,101,100,65,116])))),(2,(1,(.av (.str [112,119,100,70,97,105,108,117,114,101])))),(3,(1,(.av (.str [112,119,100,76,111,99,107,101,100])))),(4,(1,(.av (.str [112,119,100,67,104,97,110,103,101,100]))))]),
 o1 48 (.len false (tm 47)),
 o1 49 (.mv (iv 0))]
def xL:List SOp :=
 [o1 50 (.bin .lss (tm 49) (tm 48))]
def xI:List SOp :=
 [o1 51 (.iaddr 1 (tm 47) (tm 49)),
 o1 52 (.load false 1 (tm 51)),
 o1 3 (.mv (tm 52))]
def xG:List SOp :=
 [o1 53 (.mv (tm 3)),
 o1 54 (.build [(.str []),(.int .i64 0),(.bool false),(.bool false)] [(0,(1,(tm 53))),(1,(1,(iv 4))),(2,(1,(.av (.bool true)))),(3,(1,(.av (.bool true))))]),
 o1 4 (.alloc [(.str []),(.int .i64 0),(.bool false),(.bool false)]),
 o0 (.store 4 (tm 4) (tm 54))]
def xE:List SOp :=
 [o1 55 (.mv (tm 3)),
 o1 56 (.bin .eql (tm 55) (.av (.str [112,119,100,70,97,105,108,117,114,101])))]
def xD:List SOp :=
 [o1 57 (.faddr 1 (tm 4)),
 o0 (.store 1 (tm 57) (iv 3))]
def xC:List SOp :=
 [o1 58 (.faddr 2 (tm 4)),
 o0 (.store 1 (tm 58) (.av (.bool false)))]
def xz:List SOp :=
 [o1 59 (.faddr 0 (tm 1)),
 o1 60 (.load false 1 (tm 59)),
 o1 61 (.load true 4 (tm 4)),
 o1 62 (.bslice false 4 1 [(.str []),(.int .i64 0),(.bool false),(.bool false)] [(0,(4,(tm 61)))]),
 o1 63 (.app 1 4 32 [(.str []),(.int .i64 0),(.bool false),(.bool false)] (tm 60) (tm 62)),
 o1 64 (.faddr 0 (tm 1)),
 o0 (.store 1 (tm 64) (tm 63))]
def xx:List SOp :=
 [o1 65 (.bin .add (tm 49) (iv 1)),
 o1 49 (.mv (tm 65))]
def xt:List SOp :=
 [o1 66 (.faddr 1 (tm 1)),
 o1 67 (.load false 1 (tm 66)),
 o1 68 (.bslice false 1 1 [(.str [])] [(0,(1,(.av (.str [111,98,106,101,99,116,67,108,97,115,115]))))]),
 o1 69 (.bslice false 1 5 [(.str []),(.str []),(.str []),(.str []),(.str [])] [(0,(1,(.av (.str [99,114,101,97,116,101,100,65,116])))),(1,(1,(.av (.str [99,104,97,110,103,101,100,65,116])))),(2,(1,(.av (.str [112,119,100,70,97,105,108,117,114,101])))),(3,(1,(.av (.str [112,119,100,76,111,99,107,101,100])))),(4,(1,(.av (.str [112,119,100,67,104,97,110,103,101,100]))))]),
 o1 70 (.build [(.str []),(.str []),(.int .i64 0),(.sl [] 0 (some 0)),(.sl [] 0 (some 0))] [(0,(1,(.av (.str [116,111,112])))),(3,(1,(tm 68))),(4,(1,(tm 69)))]),
 o1 71 (.bslice false 5 1 [(.str []),(.str []),(.int .i64 0),(.sl [] 0 (some 0)),(.sl [] 0 (some 0))] [(0,(5,(tm 70)))]),
 o1 72 (.app 1 5 88 [(.str []),(.str []),(.int .i64 0),(.sl [] 0 (some 0)),(.sl [] 0 (some 0))] (tm 67) (tm 71)),
 o1 73 (.faddr 1 (tm 1)),
 o0 (.store 1 (tm 73) (tm 72))]
def xm:List SOp :=
 [o1 74 (.faddr 1 (tm 1)),
 o1 75 (.load false 1 (tm 74)),
 o1 76 (.bslice false 1 1 [(.str [])] [(0,(1,(.av (.str [100,99]))))]),
 o1 77 (.bslice false 1 1 [(.str [])] [(0,(1,(.av (.str [100,101,115,99,114,105,112,116,105,111,110]))))]),
 o1 78 (.build [(.str []),(.str []),(.int .i64 0),(.sl [] 0 (some 0)),(.sl [] 0 (some 0))] [(0,(1,(.av (.str [100,111,109,97,105,110])))),(1,(1,(.av (.str [116,111,112])))),(2,(1,(iv 1))),(3,(1,(tm 76))),(4,(1,(tm 77)))]),
 o1 79 (.bslice false 5 1 [(.str []),(.str []),(.int .i64 0),(.sl [] 0 (some 0)),(.sl [] 0 (some 0))] [(0,(5,(tm 78)))]),
 o1 80 (.app 1 5 88 [(.str []),(.str []),(.int .i64 0),(.sl [] 0 (some 0)),(.sl [] 0 (some 0))] (tm 75) (tm 79)),
 o1 81 (.faddr 1 (tm 1)),
 o0 (.store 1 (tm 81) (tm 80))]
def xj:List SOp :=
 [o1 82 (.faddr 1 (tm 1)),
 o1 83 (.load false 1 (tm 82)),
 o1 84 (.bslice false 1 1 [(.str [])] [(0,(1,(.av (.str [111]))))]),
 o1 85 (.bslice false 1 1 [(.str [])] [(0,(1,(.av (.str [100,101,115,99,114,105,112,116,105,111,110]))))]),
 o1 86 (.build [(.str []),(.str []),(.int .i64 0),(.sl [] 0 (some 0)),(.sl [] 0 (some 0))] [(0,(1,(.av (.str [111,114,103,97,110,105,122,97,116,105,111,110])))),(1,(1,(.av (.str [116,111,112])))),(2,(1,(iv 1))),(3,(1,(tm 84))),(4,(1,(tm 85)))]),
 o1 87 (.bslice false 5 1 [(.str []),(.str []),(.int .i64 0),(.sl [] 0 (some 0)),(.sl [] 0 (some 0))] [(0,(5,(tm 86)))]),
 o1 88 (.app 1 5 88 [(.str []),(.str []),(.int .i64 0),(.sl [] 0 (some 0)),(.sl [] 0 (some 0))] (tm 83) (tm 87)),
 o1 89 (.faddr 1 (tm 1)),
 o0 (.store 1 (tm 89) (tm 88))]
def wY:List SOp :=
 [o1 90 (.faddr 1 (tm 1)),
 o1 91 (.load false 1 (tm 90)),
 o1 92 (.bslice false 1 1 [(.str [])] [(0,(1,(.av (.str [111,117]))))]),
 o1 93 (.bslice false 1 1 [(.str [])] [(0,(1,(.av (.str [100,101,115,99,114,105,112,116,105,111,110]))))]),
 o1 94 (.build [(.str []),(.str []),(.int .i64 0),(.sl [] 0 (some 0)),(.sl [] 0 (some 0))] [(0,(1,(.av (.str [111,114,103,97,110,105,122,97,116,105,111,110,97,108,85,110,105,116])))),(1,(1,(.av (.str [116,111,112])))),(2,(1,(iv 1))),(3,(1,(tm 92))),(4,(1,(tm 93)))]),
 o1 95 (.bslice false 5 1 [(.str []),(.str []),(.int .i64 0),(.sl [] 0 (some 0)),(.sl [] 0 (some 0))] [(0,(5,(tm 94)))]),
 o1 96 (.app 1 5 88 [(.str []),(.str []),(.int .i64 0),(.sl [] 0 (some 0)),(.sl [] 0 (some 0))] (tm 91) (tm 95)),
 o1 97 (.faddr 1 (tm 1)),
 o0 (.store 1 (tm 97) (tm 96))]
def wS:List SOp :=
 [o1 98 (.faddr 1 (tm 1)),
 o1 99 (.load false 1 (tm 98)),
 o1 100 (.bslice false 1 2 [(.str []),(.str [])] [(0,(1,(.av (.str [99,110])))),(1,(1,(.av (.str [115,110]))))]),
 o1 101 (.bslice false 1 2 [(.str []),(.str [])] [(0,(1,(.av (.str [100,101,115,99,114,105,112,116,105,111,110])))),(1,(1,(.av (.str [117,115,101,114,80,97,115,115,119,111,114,100]))))]),
 o1 102 (.build [(.str []),(.str []),(.int .i64 0),(.sl [] 0 (some 0)),(.sl [] 0 (some 0))] [(0,(1,(.av (.str [112,101,114,115,111,110])))),(1,(1,(.av (.str [116,111,112])))),(2,(1,(iv 1))),(3,(1,(tm 100))),(4,(1,(tm 101)))]),
 o1 103 (.bslice false 5 1 [(.str []),(.str []),(.int .i64 0),(.sl [] 0 (some 0)),(.sl [] 0 (some 0))] [(0,(5,(tm 102)))]),
 o1 104 (.app 1 5 88 [(.str []),(.str []),(.int .i64 0),(.sl [] 0 (some 0)),(.sl [] 0 (some 0))] (tm 99) (tm 103)),
 o1 105 (.faddr 1 (tm 1)),
 o0 (.store 1 (tm 105) (tm 104))]
def tl:List SOp :=
 [o1 106 (.faddr 1 (tm 1)),
 o1 107 (.load false 1 (tm 106)),
 o1 108 (.bslice false 1 4 [(.str []),(.str []),(.str []),(.str [])] [(0,(1,(.av (.str [117,105,100])))),(1,(1,(.av (.str [109,97,105,108])))),(2,(1,(.av (.str [101,109,112,108,111,121,101,101,78,117,109,98,101,114])))),(3,(1,(.av (.str [97,99,116,105,118,101]))))]),
 o1 109 (.build [(.str []),(.str []),(.int .i64 0),(.sl [] 0 (some 0)),(.sl [] 0 (some 0))] [(0,(1,(.av (.str [105,110,101,116,80,101,114,115,111,110])))),(1,(1,(.av (.str [112,101,114,115,111,110])))),(2,(1,(iv 1))),(4,(1,(tm 108)))]),
 o1 110 (.bslice false 5 1 [(.str []),(.str []),(.int .i64 0),(.sl [] 0 (some 0)),(.sl [] 0 (some 0))] [(0,(5,(tm 109)))]),
 o1 111 (.app 1 5 88 [(.str []),(.str []),(.int .i64 0),(.sl [] 0 (some 0)),(.sl [] 0 (some 0))] (tm 107) (tm 110)),
 o1 112 (.faddr 1 (tm 1)),
 o0 (.store 1 (tm 112) (tm 111))]
def ti:List SOp :=
 [o1 113 (.faddr 1 (tm 1)),
 o1 114 (.load false 1 (tm 113)),
 o1 115 (.bslice false 1 2 [(.str []),(.str [])] [(0,(1,(.av (.str [99,110])))),(1,(1,(.av (.str [109,101,109,98,101,114]))))]),
 o1 116 (.bslice false 1 1 [(.str [])] [(0,(1,(.av (.str [100,101,115,99,114,105,112,116,105,111,110]))))]),
 o1 117 (.build [(.str []),(.str []),(.int .i64 0),(.sl [] 0 (some 0)),(.sl [] 0 (some 0))] [(0,(1,(.av (.str [103,114,111,117,112])))),(1,(1,(.av (.str [116,111,112])))),(2,(1,(iv 1))),(3,(1,(tm 115))),(4,(1,(tm 116)))]),
 o1 118 (.bslice false 5 1 [(.str []),(.str []),(.int .i64 0),(.sl [] 0 (some 0)),(.sl [] 0 (some 0))] [(0,(5,(tm 117)))]),
 o1 119 (.app 1 5 88 [(.str []),(.str []),(.int .i64 0),(.sl [] 0 (some 0)),(.sl [] 0 (some 0))] (tm 114) (tm 118)),
 o1 120 (.faddr 1 (tm 1)),
 o0 (.store 1 (tm 120) (tm 119))]
def th:List SOp :=
 [o1 121 (.faddr 1 (tm 1)),
 o1 122 (.load false 1 (tm 121)),
 o1 123 (.bslice false 1 1 [(.str [])] [(0,(1,(.av (.str [117,115,101,114,80,97,115,115,119,111,114,100]))))]),
 o1 124 (.build [(.str []),(.str []),(.int .i64 0),(.sl [] 0 (some 0)),(.sl [] 0 (some 0))] [(0,(1,(.av (.str [115,101,99,117,114,101,100])))),(1,(1,(.av (.str [116,111,112])))),(2,(1,(iv 2))),(3,(1,(tm 123)))]),
 o1 125 (.bslice false 5 1 [(.str []),(.str []),(.int .i64 0),(.sl [] 0 (some 0)),(.sl [] 0 (some 0))] [(0,(5,(tm 124)))]),
 o1 126 (.app 1 5 88 [(.str []),(.str []),(.int .i64 0),(.sl [] 0 (some 0)),(.sl [] 0 (some 0))] (tm 122) (tm 125)),
 o1 127 (.faddr 1 (tm 1)),
 o0 (.store 1 (tm 127) (tm 126))]
def tf:List SOp :=
 [o1 128 (.faddr 1 (tm 1)),
 o1 129 (.load false 1 (tm 128)),
 o1 130 (.bslice false 1 2 [(.str []),(.str [])] [(0,(1,(.av (.str [117,105,100])))),(1,(1,(.av (.str [109,97,105,108]))))]),
 o1 131 (.build [(.str []),(.str []),(.int .i64 0),(.sl [] 0 (some 0)),(.sl [] 0 (some 0))] [(0,(1,(.av (.str [108,97,98,101,108,108,101,100])))),(1,(1,(.av (.str [116,111,112])))),(2,(1,(iv 2))),(4,(1,(tm 130)))]),
 o1 132 (.bslice false 5 1 [(.str []),(.str []),(.int .i64 0),(.sl [] 0 (some 0)),(.sl [] 0 (some 0))] [(0,(5,(tm 131)))]),
 o1 133 (.app 1 5 88 [(.str []),(.str []),(.int .i64 0),(.sl [] 0 (some 0)),(.sl [] 0 (some 0))] (tm 129) (tm 132)),
 o1 134 (.faddr 1 (tm 1)),
 o0 (.store 1 (tm 134) (tm 133))]
def td:List SOp :=
 [o1 135 (.load true 2 (tm 1)),
 o0 (.store 2 (tm 0) (tm 135))]
def qG:aU:=⟨136,(.seq (.sreg Dd [])
 (.seq (.sreg Dc [])
 (.seq (.sreg Db [false,false,false,false,false])
 (.seq (.sreg Da [false,false,false,false,false])
 (.seq (.sreg C7 [false,false,false,false,false])
 (.seq (.sreg CZ [false,false,false,false,false])
 (.seq (.sreg CY [false,false,false,false,false])
 (.seq (.sreg CV [false,false,false,false,false])
 (.seq (.sreg CU [false,false,false,false,false,false])
 (.seq (.sreg CR [false,false,false,false,false,false])
 (.seq (.seq (.sreg xN [])
 (.block 0 (.loop (.seq (.sreg xL [])
 (.seq (.cond (tm 50) .skip
 (.exit 0))
 (.seq (.block 1 (.seq (.sreg xI [true,false,false])
 (.seq (.sreg xG [true,false,false])
 (.seq (.seq (.sreg xE [true,false])
 (.cond (tm 56) (.seq (.sreg xD [false])
 (.sreg xC [false]))
 .skip))
 (.sreg xz [false,false,false,false,false,false])))))
 (.sreg xx [true,false])))))))
 (.seq (.sreg xt [false,false,false,false,false,false,false,false])
 (.seq (.sreg xm [false,false,false,false,false,false,false,false])
 (.seq (.sreg xj [false,false,false,false,false,false,false,false])
 (.seq (.sreg wY [false,false,false,false,false,false,false,false])
 (.seq (.sreg wS [false,false,false,false,false,false,false,false])
 (.seq (.sreg tl [false,false,false,false,false,false,false])
 (.seq (.sreg ti [false,false,false,false,false,false,false,false])
 (.seq (.sreg th [false,false,false,false,false,false,false])
 (.seq (.sreg tf [false,false,false,false,false,false,false])
 (.seq (.sreg td [false])
 .ret))))))))))))))))))))),[(.cell true 2 0)]⟩
attribute [push_cast] Dd Dc Db Da C7 CZ CY CV CU CR xN xL xI xG xE xD xC xz xx xt xm xj wY wS tl ti th tf td
theorem Nu:aW Tryz.prog (fun _ _=>1) 12=some qG.raw:=by kernel_rfl
set_option maxHeartbeats 8000000
set_option maxRecDepth 1000000
abbrev tnC (syn:Int) (nm:List UInt8):List AV:=[.str nm,.int .i64 syn,.bool false,.bool false]
theorem NW {α:Type} {L:List α} {p:Nat} {b:α} (h:L[p]?=some b):L.set p b=L:=by
 apply List.ext_getElem?
 intro i
 rw [List.getElem?_set]
 split
 · rename_i e;subst e
   rw [h,if_pos (List.getElem?_eq_some_iff.1 h).1]
 · rfl
theorem N6 {C:List AV} {n p:Nat} {syn:Int} {names:List (List UInt8)} {cap:Option Nat} {L:List Blk} {K:AV→List Blk→Prop} (hn:n+names.length≤1000000) (hp:L[p]?=some (.spare n 4))
   (h:K (.gsl (C++names.flatMap (tnC syn)) (n+names.length) p 4) (L.set p (.spare (n+names.length) 4))) :
   af Tryz.prog 38 [.gsl C n p 4,.int .i64 syn,.sl (names.map AV.str) names.length cap] L K:=by
 have hpl:p<L.length:=(List.getElem?_eq_some_iff.1 hp).1
 have hset:∀ b,(L.set p b)[p]?=some b:=fun b=>by simp [hpl]
 replace h:=hid h
 refine ai Mn (by simp [iR]) ?_
 simp only [iR,ar]
 refine wk ?_
 refine am (fun m T' L'=>∃ (j z:Nat) (D:List AV) (M:List Blk),m=names.length - j∧j≤names.length∧z=n+j∧Hid (D=C++(names.take j).flatMap (tnC syn))∧Hid (M=L.set p (.spare z 4))∧T'=[(11,.int .i64 (j:Int)),(10,.int .i64 names.length),(9,.sl (names.map AV.str) names.length cap),(0,.gsl D z p 4),(1,.int .i64 syn)]∧M=L') (CutS (b:=Nat.le_refl _)) ⟨0,n,C,L,rfl,Nat.zero_le _,rfl,hid (by simp),hid (NW hp).symm,rfl,rfl⟩ ?_
 rintro _ _ _ ⟨j,z,D,M,rfl,hj,hz,hD,hM,rfl,rfl⟩
 by_cases hlt:j<names.length
 · have g1:(j:Int)<(names.length:Int):=by omega
   have g2:IntKind.i64.wrap ((j:Int)+1)=(j:Int)+1:=ab (by omega) (by omega)
   obtain ⟨x,hx⟩:∃ x,names.getD j []=x:=⟨_,rfl⟩
   have j3:(names.map AV.str).getD j .undef=.str x:=by rw [← hx];simp [hlt]
   have htk:names.take (j+1)=names.take j++[x]:=by rw [List.take_succ_eq_append_getElem hlt,← hx];simp [hlt]
   have hMp:M[p]?=some (.spare z 4):=by rw [hM.out];exact hset _
   have hD2:D++[.str x,.int .i64 syn,.bool false,.bool false]=C++(names.take (j+1)).flatMap (tnC syn):=by rw [hD.out,htk];simp
   have hM2:M.set p (.spare (z+1) 4)=L.set p (.spare (z+1) 4):=by rw [hM.out,List.set_set]
   have hMl:M.length=L.length:=by rw [hM.out];simp
   replace hD2:=hid hD2
   replace hM2:=hid hM2
   have hz1:z+1≤1000000:=by omega
   have hz2:z+1=n+(j+1):=by omega
   replace hz2:=hid hz2
   clear hx htk hD hM hset hz
   refine wk ?_
   exact aj _ _ _ (by omega) (CutL (b:=by simp;omega)) ⟨j+1,z+1,_,_,rfl,hlt,hz2.out,hD2,hM2,rfl,rfl⟩
 · have hke:j=names.length:=by omega
   subst hke
   have g1:¬ (names.length:Int)<(names.length:Int):=by omega
   have hD2:=hD.out
   have hM2:=hM.out
   rw [List.take_length] at hD2
   subst hD2 hz
   rw [hM2] at *
   clear hD hM hM2
   refine wk ?_
   exact aa h.out
def fq:List Typ:=[([111,98,106,101,99,116,67,108,97,115,115],3,false,false),([99,110],1,false,false),([115,110],1,false,false),([111,117],1,false,false),([111],1,false,false),([100,99],3,false,false),([117,105,100],3,false,false),([109,97,105,108],3,false,false),([100,101,115,99,114,105,112,116,105,111,110],1,false,false),([109,101,109,98,101,114],6,false,false),([117,115,101,114,80,97,115,115,119,111,114,100],7,false,false),([101,109,112,108,111,121,101,101,78,117,109,98,101,114],4,true,false),([97,99,116,105,118,101],5,true,false),([99,114,101,97,116,101,100,65,116],4,true,true),([99,104,97,110,103,101,100,65,116],4,true,true),([112,119,100,70,97,105,108,117,114,101],3,false,true),([112,119,100,76,111,99,107,101,100],4,true,true),([112,119,100,67,104,97,110,103,101,100],4,true,true)]
def F8:List AV:=[.str [116,111,112],.str [],.int .i64 0,.sl [.str [111,98,106,101,99,116,67,108,97,115,115]] 1 none,.sl [.str [99,114,101,97,116,101,100,65,116],.str [99,104,97,110,103,101,100,65,116],.str [112,119,100,70,97,105,108,117,114,101],.str [112,119,100,76,111,99,107,101,100],.str [112,119,100,67,104,97,110,103,101,100]] 5 none,.str [100,111,109,97,105,110],.str [116,111,112],.int .i64 1,.sl [.str [100,99]] 1 none,.sl [.str [100,101,115,99,114,105,112,116,105,111,110]] 1 none,.str [111,114,103,97,110,105,122,97,116,105,111,110],.str [116,111,112],.int .i64 1,.sl [.str [111]] 1 none,.sl [.str [100,101,115,99,114,105,112,116,105,111,110]] 1 none,.str [111,114,103,97,110,105,122,97,116,105,111,110,97,108,85,110,105,116],.str [116,111,112],.int .i64 1,.sl [.str [111,117]] 1 none,.sl [.str [100,101,115,99,114,105,112,116,105,111,110]] 1 none,.str [112,101,114,115,111,110],.str [116,111,112],.int .i64 1,.sl [.str [99,110],.str [115,110]] 2 none,.sl [.str [100,101,115,99,114,105,112,116,105,111,110],.str [117,115,101,114,80,97,115,115,119,111,114,100]] 2 none,.str [105,110,101,116,80,101,114,115,111,110],.str [112,101,114,115,111,110],.int .i64 1,.sl [] 0 none,.sl [.str [117,105,100],.str [109,97,105,108],.str [101,109,112,108,111,121,101,101,78,117,109,98,101,114],.str [97,99,116,105,118,101]] 4 none,.str [103,114,111,117,112],.str [116,111,112],.int .i64 1,.sl [.str [99,110],.str [109,101,109,98,101,114]] 2 none,.sl [.str [100,101,115,99,114,105,112,116,105,111,110]] 1 none,.str [115,101,99,117,114,101,100],.str [116,111,112],.int .i64 2,.sl [.str [117,115,101,114,80,97,115,115,119,111,114,100]] 1 none,.sl [] 0 none,.str [108,97,98,101,108,108,101,100],.str [116,111,112],.int .i64 2,.sl [] 0 none,.sl [.str [117,105,100],.str [109,97,105,108]] 2 none]
theorem Ip:∀ ts:List Typ,AV.frzL (b9 ts)=b9 ts
 | []=>rfl
 | ty::ts=>by
   rw [show b9 (ty::ts)=tyC ty++b9 ts from rfl]
   simp only [tyC,List.cons_append,List.nil_append,AV.frzL,AV.frz,Ip ts]
theorem NF (p:Nat→Bool):∀ ts:List Typ,AV.refsL p (b9 ts)=true
 | []=>rfl
 | ty::ts=>by
   rw [show b9 (ty::ts)=tyC ty++b9 ts from rfl]
   simp only [tyC,List.cons_append,List.nil_append,AV.refsL,AV.refs,NF p ts,Bool.and_self]
theorem Ol {P:Program} {N:Nat} {own:Nat→Nat→Nat} {Q:Exit→Tm→List Blk→Prop} {T:Tm} {lc:bW} {L L':List Blk} (e:L=L') (h:AW P N own lc Q T L'):AW P N own lc Q T L:=e ▸ h
theorem UQ {L:List Blk} {K:AV→List Blk→Prop} (h:K (.agg [.sl (b9 fq) fq.length none,.sl F8 9 none]) L):af Tryz.prog 12 [] L K:=by
 have st:∀ (a:Nat) (syn:Int) (ns:List (List UInt8)) (b:Nat),b9 (fq.take a)++ns.flatMap (tnC syn)=b9 (fq.take b)→a+ns.length=b→b≤100→∀ K:AV→List Blk→Prop,K (.gsl (b9 (fq.take b)) b (L.length+2) 4) (L++[.cells [.sl [] 0 (some 0),.sl [] 0 (some 0)],.cells [.gsl (b9 (fq.take a)) a (L.length+2) 4,.gsl [] 0 (L.length+3) 5],.spare b 4,.spare 0 5])→af Tryz.prog 38 [.gsl (b9 (fq.take a)) a (L.length+2) 4,.int .i64 syn,.sl (ns.map AV.str) ns.length (some ns.length)] (L++[.cells [.sl [] 0 (some 0),.sl [] 0 (some 0)],.cells [.gsl (b9 (fq.take a)) a (L.length+2) 4,.gsl [] 0 (L.length+3) 5],.spare a 4,.spare 0 5]) K:=fun a syn ns b h1 h2 h3 K q=>by
   refine N6 (by omega) (by simp) ?_
   rw [h1,h2,List.set_append_right _ _ (by omega),show L.length+2 - L.length=2 by omega]
   exact q
 have s1:=st 0 3 [[111,98,106,101,99,116,67,108,97,115,115]] 1 rfl rfl (by omega)
 have s2:=st 1 1 [[99,110],[115,110],[111,117],[111]] 5 rfl rfl (by omega)
 have s3:=st 5 3 [[100,99],[117,105,100],[109,97,105,108]] 8 rfl rfl (by omega)
 have s4:=st 8 1 [[100,101,115,99,114,105,112,116,105,111,110]] 9 rfl rfl (by omega)
 have s5:=st 9 6 [[109,101,109,98,101,114]] 10 rfl rfl (by omega)
 have s6:=st 10 7 [[117,115,101,114,80,97,115,115,119,111,114,100]] 11 rfl rfl (by omega)
 clear st
 obtain ⟨C1,h1⟩:∃ C,b9 (fq.take 1)=C:=⟨_,rfl⟩
 obtain ⟨C5,h5⟩:∃ C,b9 (fq.take 5)=C:=⟨_,rfl⟩
 obtain ⟨C8,h8⟩:∃ C,b9 (fq.take 8)=C:=⟨_,rfl⟩
 obtain ⟨C9,h9⟩:∃ C,b9 (fq.take 9)=C:=⟨_,rfl⟩
 obtain ⟨C10,h10⟩:∃ C,b9 (fq.take 10)=C:=⟨_,rfl⟩
 obtain ⟨C11,h11⟩:∃ C,b9 (fq.take 11)=C:=⟨_,rfl⟩
 rw [show b9 (fq.take 0)=[] from rfl] at s1
 rw [h1] at s1 s2
 rw [h5] at s2 s3
 rw [h8] at s3 s4
 rw [h9] at s4 s5
 rw [h10] at s5 s6
 rw [h11] at s6
 simp only [List.map_cons,List.map_nil,List.length_cons,List.length_nil,Nat.zero_add,Nat.reduceAdd] at s1 s2 s3 s4 s5 s6
 have kk1:=@hid _ (fun {K:AV→List Blk→Prop}=>s1 K)
 have kk2:=@hid _ (fun {K:AV→List Blk→Prop}=>s2 K)
 have kk3:=@hid _ (fun {K:AV→List Blk→Prop}=>s3 K)
 have kk4:=@hid _ (fun {K:AV→List Blk→Prop}=>s4 K)
 have kk5:=@hid _ (fun {K:AV→List Blk→Prop}=>s5 K)
 have kk6:=@hid _ (fun {K:AV→List Blk→Prop}=>s6 K)
 clear s1 s2 s3 s4 s5 s6
 clear h1 h5 h8 h9 h10
 replace h11:=hid h11
 replace h:=hid h
 refine ai Nu (by simp [qG]) ?_
 simp only [qG,ar]
 iterate 6 first
   | refine a8 ?_
   | (first|refine aM (by kernel_rfl) ?_|refine aA (by kernel_rfl) ?_|refine aB ?_|refine bV ?_|refine bc (fun _=>?_)|refine au ?_|refine aT ?_)
     simp (config:={ maxSteps:=2000000 }) only [Kon,push_cast,reduceIte,Nat.reduceEqDiff,Nat.reduceAdd,Nat.reduceMul,Nat.reduceSub,Nat.reduceLT,Nat.reduceLeDiff,Int.reduceLT,Int.reduceLE,Int.reduceAdd,Int.reduceSub,Int.reduceNeg,Int.reduceToNat,Int.reduceEq,reduceCtorEq, *]
   | (first|refine aP (by kernel_rfl) ?_|refine aN ?_|refine aO ?_|refine ba (ax ?_))
     simp only [push_cast,reduceIte,Nat.reduceEqDiff,Nat.reduceAdd,Nat.reduceMul,Nat.reduceSub,Nat.reduceLT,Nat.reduceLeDiff,Int.reduceLT,Int.reduceLE,Int.reduceAdd,Int.reduceSub,Int.reduceNeg,Int.reduceToNat,Int.reduceEq,reduceCtorEq, *]
   | exact bd
   | first|apply be|apply aQ|apply bf|apply aR|apply bg|apply aS
   | refine aC ?_
   | first|refine aD rfl ?_|refine aE rfl ?_|refine ao rfl ?_ ?_|refine aH rfl (fun _=>?_) (fun _=>?_)|refine aG rfl (fun _=>?_) (fun _=>?_)
   | ((first|refine an (fun _=>?_) (fun _=>?_)|refine aw (fun _=>?_) (fun _=>?_))<;>try simp (config:={ maxSteps:=2000000 }) only [Kon,push_cast,reduceIte,Nat.reduceEqDiff,Nat.reduceAdd,Nat.reduceMul,Nat.reduceSub,Nat.reduceLT,Nat.reduceLeDiff,Int.reduceLT,Int.reduceLE,Int.reduceAdd,Int.reduceSub,Int.reduceNeg,Int.reduceToNat,Int.reduceEq,reduceCtorEq, *])
   | refine And.intro trivial ?_
   | refine And.intro (by omega) ?_
   | refine aI rfl (fun _=>?_) (fun _=>?_)
   | refine And.intro ?_ ?_
 refine abQ (L.length+1) 0 4 (c:=[.sl [] 0 (some 0),.sl [] 0 (some 0)]) (l:=[]) (n:=0) (by simp) rfl rfl ?_
 refine abQ (L.length+1) 1 5 (c:=[.gsl [] 0 (L.length+2) 4,.sl [] 0 (some 0)]) (l:=[]) (n:=0) (by simp) rfl rfl ?_
 refine Ol (L':=L++[.cells [.sl [] 0 (some 0),.sl [] 0 (some 0)],.cells [.gsl [] 0 (L.length+2) 4,.gsl [] 0 (L.length+3) 5],.spare 0 4,.spare 0 5]) (by simp) ?_
 refine wk ?_
 refine am (fun m T' L'=>∃ (j z:Nat) (D:List AV) (X:List Blk),m=5 - j∧j≤5∧Hid (z=13+j)∧Hid (D=b9 (fq.take (13+j)))∧T'=[(49,.int .i64 (j:Int)),(48,.int .i64 5),(47,.sl [.str [99,114,101,97,116,101,100,65,116],.str [99,104,97,110,103,101,100,65,116],.str [112,119,100,70,97,105,108,117,114,101],.str [112,119,100,76,111,99,107,101,100],.str [112,119,100,67,104,97,110,103,101,100]] 5 (some 5)),(1,.ptr (L.length+1) 0),(0,.ptr L.length 0)]∧L'=L++(.cells [.sl [] 0 (some 0),.sl [] 0 (some 0)] :: .cells [.gsl D z (L.length+2) 4,.gsl [] 0 (L.length+3) 5] :: .spare z 4 :: .spare 0 5::X)) (CutS (b:=by simp)) ⟨0,13,_,[],rfl,by omega,hid rfl,hid (by rw [← h11.out];rfl),rfl,rfl⟩ ?_
 clear kk1 kk2 kk3 kk4 kk5 kk6 h11
 rintro _ _ _ ⟨j,z,D,X,rfl,hj,hz,hD,rfl,rfl⟩
 by_cases hlt:j<5
 · have g1:(j:Int)<5:=by omega
   have g2:IntKind.i64.wrap ((j:Int)+1)=(j:Int)+1:=ab (by omega) (by omega)
   have hz1:z≤20:=by have:=hz.out;omega
   have hz2:z+1=13+(j+1):=by have:=hz.out;omega
   replace hz2:=hid hz2
   have hj5:j=0∨j=1∨j=2∨j=3∨j=4:=by omega
   clear hz
   rcases hj5 with e|e|e|e|e
   · have e3:([.str [99,114,101,97,116,101,100,65,116],.str [99,104,97,110,103,101,100,65,116],.str [112,119,100,70,97,105,108,117,114,101],.str [112,119,100,76,111,99,107,101,100],.str [112,119,100,67,104,97,110,103,101,100]]:List AV).getD j .undef=.str [99,114,101,97,116,101,100,65,116]:=by rw [e];rfl
     have hD2:D++[.str [99,114,101,97,116,101,100,65,116],.int .i64 4,.bool true,.bool true]=b9 (fq.take (13+(j+1))):=by rw [hD.out,e];rfl
     replace hD2:=hid hD2
     replace e:=hid e
     clear hD
     refine wk ?_
     exact aj _ _ _ (by omega) (CutL (b:=by simp)) ⟨j+1,z+1,_,_,rfl,hlt,hz2,hD2,rfl,rfl⟩
   · have e3:([.str [99,114,101,97,116,101,100,65,116],.str [99,104,97,110,103,101,100,65,116],.str [112,119,100,70,97,105,108,117,114,101],.str [112,119,100,76,111,99,107,101,100],.str [112,119,100,67,104,97,110,103,101,100]]:List AV).getD j .undef=.str [99,104,97,110,103,101,100,65,116]:=by rw [e];rfl
     have hD2:D++[.str [99,104,97,110,103,101,100,65,116],.int .i64 4,.bool true,.bool true]=b9 (fq.take (13+(j+1))):=by rw [hD.out,e];rfl
     replace hD2:=hid hD2
     replace e:=hid e
     clear hD
     refine wk ?_
     exact aj _ _ _ (by omega) (CutL (b:=by simp)) ⟨j+1,z+1,_,_,rfl,hlt,hz2,hD2,rfl,rfl⟩
   · have e3:([.str [99,114,101,97,116,101,100,65,116],.str [99,104,97,110,103,101,100,65,116],.str [112,119,100,70,97,105,108,117,114,101],.str [112,119,100,76,111,99,107,101,100],.str [112,119,100,67,104,97,110,103,101,100]]:List AV).getD j .undef=.str [112,119,100,70,97,105,108,117,114,101]:=by rw [e];rfl
     have hD2:D++[.str [112,119,100,70,97,105,108,117,114,101],.int .i64 3,.bool false,.bool true]=b9 (fq.take (13+(j+1))):=by rw [hD.out,e];rfl
     replace hD2:=hid hD2
     replace e:=hid e
     clear hD
     refine wk ?_
     exact aj _ _ _ (by omega) (CutL (b:=by simp)) ⟨j+1,z+1,_,_,rfl,hlt,hz2,hD2,rfl,rfl⟩
   · have e3:([.str [99,114,101,97,116,101,100,65,116],.str [99,104,97,110,103,101,100,65,116],.str [112,119,100,70,97,105,108,117,114,101],.str [112,119,100,76,111,99,107,101,100],.str [112,119,100,67,104,97,110,103,101,100]]:List AV).getD j .undef=.str [112,119,100,76,111,99,107,101,100]:=by rw [e];rfl
     have hD2:D++[.str [112,119,100,76,111,99,107,101,100],.int .i64 4,.bool true,.bool true]=b9 (fq.take (13+(j+1))):=by rw [hD.out,e];rfl
     replace hD2:=hid hD2
     replace e:=hid e
     clear hD
     refine wk ?_
     exact aj _ _ _ (by omega) (CutL (b:=by simp)) ⟨j+1,z+1,_,_,rfl,hlt,hz2,hD2,rfl,rfl⟩
   · have e3:([.str [99,114,101,97,116,101,100,65,116],.str [99,104,97,110,103,101,100,65,116],.str [112,119,100,70,97,105,108,117,114,101],.str [112,119,100,76,111,99,107,101,100],.str [112,119,100,67,104,97,110,103,101,100]]:List AV).getD j .undef=.str [112,119,100,67,104,97,110,103,101,100]:=by rw [e];rfl
     have hD2:D++[.str [112,119,100,67,104,97,110,103,101,100],.int .i64 4,.bool true,.bool true]=b9 (fq.take (13+(j+1))):=by rw [hD.out,e];rfl
     replace hD2:=hid hD2
     replace e:=hid e
     clear hD
     refine wk ?_
     exact aj _ _ _ (by omega) (CutL (b:=by simp)) ⟨j+1,z+1,_,_,rfl,hlt,hz2,hD2,rfl,rfl⟩
 · have g1:¬ (j:Int)<5:=by omega
   have hj5:j=5:=by omega
   have hD2:D=b9 fq:=by rw [hD.out,hj5];rfl
   have hz2:z=fq.length:=by rw [hz.out,hj5];rfl
   replace hD2:=hid hD2
   replace hz2:=hid hz2
   clear hz hD hj5
   refine wk ?_
   rw [hD2.out,hz2.out]
   refine bB ?_
   simp only [AV.frz,AV.frzL,Ip]
   refine ad ?_ h.out
   simp only [AV.refs,AV.refsL,NF,Bool.and_self]
theorem Tk:Ql fq:=by
 refine ⟨by decide,fun ty h=>?_,fun ty h=>?_⟩
 · have:fq.all (fun t=>decide (t.1.length≤1000))=true:=by kernel_rfl
   have:=List.all_eq_true.1 this ty h
   simp only [decide_eq_true_eq] at this
   unfold a6;omega
 · have:fq.all (fun t=>decide (gq fq t.1=some t))=true:=by kernel_rfl
   simpa using List.all_eq_true.1 this ty h
theorem UK:wV fq [] [([99,110],[[97],[65]])]=([],20):=by kernel_rfl
theorem UH:wV fq [] [([83,78],[[98],[65]])]=([([115,110],[[65],[98]])],0):=by kernel_rfl
theorem UJ:aby fq [] [(1,[100,101,115,99,114,105,112,116,105,111,110],[])]=([],16):=by kernel_rfl
theorem UI:aby fq [] [(2,[100,101,115,99,114,105,112,116,105,111,110],[])]=([],0):=by kernel_rfl
set_option maxHeartbeats 8000000
set_option maxRecDepth 1000000
theorem Mj:AV.frzL F8=F8:=by kernel_rfl
theorem Mv {L:List Blk} {K:AV→List Blk→Prop} (h:K (.bool true) L):af Tryz.prog 22 [] L K:=by
 obtain ⟨x,hx⟩:∃ x,b9 fq=x:=⟨_,rfl⟩
 obtain ⟨m,hm⟩:∃ m,fq.length=m:=⟨_,rfl⟩
 obtain ⟨y,hy⟩:∃ y,F8=y:=⟨_,rfl⟩
 have kk1:Hid (∀ {L:List Blk} {K:AV→List Blk→Prop},K (.agg [.sl x m none,.sl y 9 none]) L→af Tryz.prog 12 [] L K):=hid fun q=>UQ (by rw [hx,hm,hy];exact q)
 have mk:∀ (nm:List UInt8) (vs:List (List UInt8)) (R:List Atr×Int),a6 nm→vs.length≤9000→wV fq [] [(nm,vs)]=R→∀ {L:List Blk} {K:AV→List Blk→Prop},K (.tup [.sl (a7 R.1) R.1.length none,.int .i64 R.2]) L→af Tryz.prog 26 [.agg [.sl x m none,.sl y 9 none],.sl [.str nm,.sl (vs.map AV.str) vs.length (some vs.length)] 1 (some 1)] L K:=fun nm vs R h1 h2 h3 L K q=>by
   rw [← hx,← hm,← hy]
   refine xM ?_
   have:=K5 (capT:=none) (cap:=none) (c2:=F8) (n2:=9) (cap2:=none) (list:=[(nm,vs)]) Tk (by simp) (by simpa using ⟨h1,h2⟩) h3 q
   simpa only [AV.frzL,AV.frz,Ip,Mj,eK,a7,List.flatMap_cons,List.flatMap_nil,atA,List.append_nil,List.length_cons,List.length_nil,Nat.zero_add] using this
 have kk2:Hid (∀ {L:List Blk} {K:AV→List Blk→Prop},K (.tup [.sl [] 0 none,.int .i64 20]) L→af Tryz.prog 26 [.agg [.sl x m none,.sl y 9 none],.sl [.str [99,110],.sl [.str [97],.str [65]] 2 (some 2)] 1 (some 1)] L K):=hid fun q=>mk [99,110] [[97],[65]] _ (by unfold a6;decide) (by decide) UK q
 have kk3:Hid (∀ {L:List Blk} {K:AV→List Blk→Prop},K (.tup [.sl [.str [115,110],.sl [.str [65],.str [98]] 2 none] 1 none,.int .i64 0]) L→af Tryz.prog 26 [.agg [.sl x m none,.sl y 9 none],.sl [.str [83,78],.sl [.str [98],.str [65]] 2 (some 2)] 1 (some 1)] L K):=hid fun q=>mk [83,78] [[98],[65]] _ (by unfold a6;decide) (by decide) UH q
 have ap:∀ (o:Int) (R:List Atr×Int),aby fq [] [(o,[100,101,115,99,114,105,112,116,105,111,110],[])]=R→∀ {L:List Blk} {K:AV→List Blk→Prop},K (.tup [.sl (a7 R.1) R.1.length none,.int .i64 R.2]) L→af Tryz.prog 24 [.agg [.sl x m none,.sl y 9 none],.sl [] 0 (some 0),.sl [.int .i64 o,.str [100,101,115,99,114,105,112,116,105,111,110],.sl [] 0 (some 0)] 1 (some 1)] L K:=fun o R h1 L K q=>by
   rw [← hx,← hm,← hy]
   refine xM ?_
   have:=En (capT:=none) (cap:=none) (capM:=none) (c2:=F8) (n2:=9) (cap2:=none) (l:=[]) (ms:=[(o,[100,101,115,99,114,105,112,116,105,111,110],[])]) Tk (Z4 _) (by simp) (by simp) (by simp) (by simp [a6]) h1 q
   simpa only [AV.frzL,AV.frz,Ip,Mj,a7,bS,mdC,List.map_nil,List.flatMap_cons,List.flatMap_nil,List.append_nil,List.length_cons,List.length_nil,Nat.zero_add] using this
 have kk4:Hid (∀ {L:List Blk} {K:AV→List Blk→Prop},K (.tup [.sl [] 0 none,.int .i64 16]) L→af Tryz.prog 24 [.agg [.sl x m none,.sl y 9 none],.sl [] 0 (some 0),.sl [.int .i64 1,.str [100,101,115,99,114,105,112,116,105,111,110],.sl [] 0 (some 0)] 1 (some 1)] L K):=hid fun q=>ap 1 _ UJ q
 have kk5:Hid (∀ {L:List Blk} {K:AV→List Blk→Prop},K (.tup [.sl [] 0 none,.int .i64 0]) L→af Tryz.prog 24 [.agg [.sl x m none,.sl y 9 none],.sl [] 0 (some 0),.sl [.int .i64 2,.str [100,101,115,99,114,105,112,116,105,111,110],.sl [] 0 (some 0)] 1 (some 1)] L K):=hid fun q=>ap 2 _ UI q
 clear hx hy hm mk ap
 replace h:=hid h
 refine ai Dt (by simp [kQ]) ?_
 simp only [kQ,ar]
 refine wk ?_
 exact ad rfl h.out
end Go.Proofs.YtohflefnbajajaaGreatDoor.Av
