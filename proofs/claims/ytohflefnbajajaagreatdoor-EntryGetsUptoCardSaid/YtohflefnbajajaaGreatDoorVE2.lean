/- Joined texts of the walk, made small by a program. -/
import Derived.Test.YtohflefnbajajaaGreatDoorVP4
import Derived.Test.YtohflefnbajajaaGreatDoorRows
import Derived.KernelRfl
import Derived.Test.YtohflefnbajajaaGreatDoorVE1
import Derived.Test.YtohflefnbajajaaGreatDoorVP5
import Derived.Test.YtohflefnbajajaaGreatDoorVS1
set_option linter.unusedSimpArgs false
set_option linter.unusedVariables false
set_option maxRecDepth 100000
namespace Go.Proofs.YtohflefnbajajaaGreatDoor.Av
open Go
def sG:List SOp :=
 [o1 4 (.mv (iv 0)),
 o1 5 (.mv (.av (.bool false)))]
def sF:List SOp :=
 [o1 6 (.mv (tm 0)),
 o1 7 (.mv (tm 1)),
 o1 8 (.call 84 [(tm 7)]),
 o1 9 (.call 83 [(tm 6),(tm 8),(.av (.func 85 []))]),
 o1 10 (.extract (tm 9) 0),
 o1 11 (.extract (tm 9) 1),
 o1 4 (.mv (tm 10)),
 o1 5 (.mv (tm 11))]
def fm:aU:=⟨12,(.seq (.sreg sG [])
 (.seq (.sreg sF [true,true,false,false,false,false,false,false])
 .ret)),[(.tmp 4),(.tmp 5)]⟩
attribute [push_cast] sG sF
theorem ox:aW Tryz.prog (fun _ _=>1) 54=some fm.raw:=by kernel_rfl
def kq:List SOp :=
 [o1 2 (.box (tm 0)),
 o1 4 (.mv (iv 0))]
def kp:List SOp :=
 [o1 5 (.faddr 0 (tm 2)),
 o1 6 (.load false 1 (tm 5)),
 o1 7 (.call 84 [(tm 6)]),
 o1 8 (.mv (tm 1)),
 o1 9 (.call 86 [(tm 7),(tm 8)]),
 o1 4 (.mv (tm 9))]
def eu:aU:=⟨10,(.seq (.sreg kq [])
 (.seq (.sreg kp [true,false,false,false,false,false])
 .ret)),[(.tmp 4)]⟩
attribute [push_cast] kq kp
theorem jy:aW Tryz.prog (fun _ _=>1) 85=some eu.raw:=by kernel_rfl
def YL:List SOp :=
 [o1 2 (.mv (.av (.sl [] 0 (some 0))))]
def YK:List SOp :=
 [o1 3 (.mv (.av (.sl [] 0 (some 0))))]
def YJ:List SOp :=
 [o1 6 (.mv (tm 0)),
 o1 7 (.len false (tm 6)),
 o1 8 (.mv (iv 0))]
def YI:List SOp :=
 [o1 9 (.bin .lss (tm 8) (tm 7))]
def YH:List SOp :=
 [o1 10 (.iaddr 2 (tm 6) (tm 8)),
 o1 11 (.load true 2 (tm 10)),
 o1 5 (.alloc [(.str []),(.sl [] 0 (some 0))]),
 o0 (.store 2 (tm 5) (tm 11))]
def YG:List (ah×Kd) :=
 [od 12 (.mv (tm 3)) .pure,
 od 13 (.faddr 0 (tm 5)) .pure,
 od 14 (.load false 1 (tm 13)) (.read 0 1),
 od 15 (.faddr 1 (tm 5)) .pure,
 od 16 (.load false 1 (tm 15)) (.read 0 0),
 od 17 (.call 55 [(tm 16)]) .eff,
 od 18 (.build [(.str []),(.sl [] 0 (some 0))] [(0,(1,(tm 14))),(1,(1,(tm 17)))]) .pure,
 od 19 (.bslice false 2 1 [(.str []),(.sl [] 0 (some 0))] [(0,(2,(tm 18)))]) (.read 0 0)]
def YF:List ah :=
 [⟨(some 20),(.app 2 2 40 [(.str []),(.sl [] 0 (some 0))] (tm 12) (tm 19)),none⟩,
 ⟨(some 3),(.mv (tm 20)),none⟩]
def YE:List SOp :=
 [o1 21 (.bin .add (tm 8) (iv 1)),
 o1 8 (.mv (tm 21))]
def YD:List SOp :=
 [o1 22 (.mv (tm 3)),
 o1 2 (.mv (tm 22))]
def abf:aU:=⟨23,(.seq (.sreg YL [])
 (.seq (.sreg YK [])
 (.seq (.seq (.sreg YJ [])
 (.block 0 (.loop (.seq (.sreg YI [])
 (.seq (.cond (tm 9) .skip
 (.exit 0))
 (.seq (.block 1 (.seq (.sreg YH [true,false,false])
 (.dregM YG YF [true,false,false,false,false,false,false,false,false,false])))
 (.sreg YE [true,false])))))))
 (.seq (.sreg YD [true,false])
 .ret)))),[(.tmp 2)]⟩
attribute [push_cast] YL YK YJ YI YH YG YF YE YD
theorem abe:aW Tryz.prog (fun r i=>if r=5∧i=8 then 2 else if r=5∧i=5 then 3 else 1) 47=some abf.raw:=by kernel_rfl
def sE:List SOp :=
 [o1 3 (.box (tm 0)),
 o1 6 (.mv (iv 0)),
 o1 7 (.mv (.av (.bool false))),
 o1 8 (.mv (.av (.bool false)))]
def sD:List SOp :=
 [o1 14 (.faddr 1 (tm 3)),
 o1 15 (.load false 1 (tm 14)),
 o1 16 (.mv (tm 2)),
 o1 17 (.call 87 [(tm 15),(tm 16)]),
 o1 13 (.mv (tm 17)),
 o1 18 (.extract (tm 13) 0),
 o1 19 (.extract (tm 13) 1),
 o1 9 (.mv (tm 18)),
 o1 10 (.mv (tm 19))]
def sB:List SOp :=
 [o1 20 (.mv (tm 10)),
 o1 21 (.un .not (tm 20))]
def sA:List SOp :=
 [o1 6 (.mv (iv 0)),
 o1 7 (.mv (.av (.bool false))),
 o1 8 (.mv (.av (.bool false)))]
def sy:List SOp :=
 [o1 23 (.mv (tm 1)),
 o1 24 (.mv (tm 9)),
 o1 25 (.mkfn 89 [(tm 3)]),
 o1 26 (.call 88 [(tm 23),(tm 24),(tm 25)]),
 o1 22 (.mv (tm 26)),
 o1 27 (.extract (tm 22) 0),
 o1 28 (.extract (tm 22) 1),
 o1 11 (.mv (tm 27)),
 o1 12 (.mv (tm 28))]
def sx:List SOp :=
 [o1 29 (.mv (tm 11)),
 o1 30 (.mv (tm 12)),
 o1 6 (.mv (tm 29)),
 o1 7 (.mv (tm 30)),
 o1 8 (.mv (.av (.bool true)))]
def fk:aU:=⟨31,(.seq (.sreg sE [])
 (.seq (.sreg sD [true,true,false,false,false,false,false,false,false])
 (.seq (.seq (.sreg sB [true,false])
 (.cond (tm 21) (.seq (.sreg sA [])
 .ret)
 .skip))
 (.seq (.sreg sy [true,true,false,false,false,false,false,false,false])
 (.seq (.sreg sx [true,true,true,false,false])
 .ret))))),[(.tmp 6),(.tmp 7),(.tmp 8)]⟩
attribute [push_cast] sE sD sB sA sy sx
theorem ow:aW Tryz.prog (fun _ _=>1) 56=some fk.raw:=by kernel_rfl
def ko:List SOp :=
 [o1 5 (.mv (iv 0))]
def kn:List SOp :=
 [o1 9 (.faddr 1 (tm 2)),
 o1 10 (.load false 1 (tm 9)),
 o1 11 (.mv (tm 0)),
 o1 12 (.call 87 [(tm 10),(tm 11)]),
 o1 8 (.mv (tm 12)),
 o1 13 (.extract (tm 8) 0),
 o1 14 (.extract (tm 8) 1),
 o1 6 (.mv (tm 13)),
 o1 7 (.mv (tm 14))]
def kl:List SOp :=
 [o1 15 (.mv (tm 6)),
 o1 16 (.mv (tm 1)),
 o1 17 (.call 86 [(tm 15),(tm 16)]),
 o1 5 (.mv (tm 17))]
def iz:aU:=⟨18,(.seq (.sreg ko [])
 (.seq (.sreg kn [false,true,false,false,false,false,false,false,false])
 (.seq (.sreg kl [true,false,false,false])
 .ret))),[(.tmp 5)]⟩
attribute [push_cast] ko kn kl
theorem Ar:aW Tryz.prog (fun _ _=>1) 89=some iz.raw:=by kernel_rfl
def iN:List SOp :=
 [o1 4 (.box (tm 1)),
 o1 6 (.mv (iv 0))]
def iM:List SOp :=
 [o1 16 (.mv (tm 0)),
 o1 17 (.nilchk (tm 16)),
 o1 18 (.faddr 2 (tm 17)),
 o1 19 (.load false 1 (tm 18)),
 o1 20 (.faddr 0 (tm 4)),
 o1 21 (.load false 1 (tm 20)),
 o1 22 (.call 54 [(tm 19),(tm 21)]),
 o1 15 (.mv (tm 22)),
 o1 23 (.extract (tm 15) 0),
 o1 24 (.extract (tm 15) 1),
 o1 7 (.mv (tm 23)),
 o1 8 (.mv (tm 24))]
def iL:List SOp :=
 [o1 9 (.mv (.av (.sl [] 0 (some 0))))]
def iK:List SOp :=
 [o1 25 (.mv (tm 8))]
def iJ:List SOp :=
 [o1 26 (.mv (tm 0)),
 o1 27 (.nilchk (tm 26)),
 o1 28 (.faddr 2 (tm 27)),
 o1 29 (.load false 1 (tm 28)),
 o1 30 (.mv (tm 7)),
 o1 31 (.iaddr 2 (tm 29) (tm 30)),
 o1 32 (.faddr 1 (tm 31)),
 o1 33 (.load false 1 (tm 32)),
 o1 9 (.mv (tm 33))]
def iI:List SOp :=
 [o1 34 (.mv (tm 2)),
 o1 35 (.len false (tm 34)),
 o1 36 (.mv (iv 0))]
def iH:List SOp :=
 [o1 37 (.bin .lss (tm 36) (tm 35))]
def iG:List SOp :=
 [o1 38 (.iaddr 1 (tm 34) (tm 36)),
 o1 39 (.load false 1 (tm 38)),
 o1 11 (.mv (tm 39))]
def iF:List SOp :=
 [o1 41 (.load true 4 (tm 4)),
 o1 42 (.mv (tm 9)),
 o1 43 (.mv (tm 11)),
 o1 44 (.call 56 [(tm 41),(tm 42),(tm 43)]),
 o1 40 (.mv (tm 44)),
 o1 45 (.extract (tm 40) 0),
 o1 46 (.extract (tm 40) 1),
 o1 47 (.extract (tm 40) 2),
 o1 12 (.mv (tm 45)),
 o1 13 (.mv (tm 46)),
 o1 14 (.mv (tm 47))]
def iE:List SOp :=
 [o1 49 (.mv (tm 14)),
 o1 50 (.un .not (tm 49)),
 o1 48 (.mv (tm 50))]
def ib:List SOp :=
 [o1 6 (.mv (iv 21))]
def ia:List SOp :=
 [o1 52 (.mv (tm 13)),
 o1 51 (.mv (tm 52))]
def hZ:List SOp :=
 [o1 6 (.mv (iv 20))]
def hU:List SOp :=
 [o1 53 (.mv (tm 9)),
 o1 54 (.mv (tm 12)),
 o1 55 (.mv (tm 11)),
 o1 56 (.bslice false 1 1 [(.str [])] [(0,(1,(tm 55)))]),
 o1 57 (.call 76 [(tm 53),(tm 54),(tm 56)]),
 o1 9 (.mv (tm 57))]
def hP:List SOp :=
 [o1 58 (.bin .add (tm 36) (iv 1)),
 o1 36 (.mv (tm 58))]
def hG:List SOp :=
 [o1 74 (.faddr 2 (tm 4)),
 o1 75 (.load false 1 (tm 74)),
 o1 76 (.mv (tm 75)),
 .grp none 76 true
 [og 77 76 true (.mv (tm 9)),
 og 78 76 true (.len false (tm 77)),
 og 79 76 true (.bin .gtr (tm 78) (iv 1))]
 80 (tm 79),
 o1 73 (.mv (tm 80))]
def hF:List SOp :=
 [o1 6 (.mv (iv 19))]
def gZ:List SOp :=
 [o1 82 (.mv (tm 9)),
 o1 83 (.len false (tm 82)),
 o1 84 (.bin .eql (tm 83) (iv 0)),
 o1 81 (.mv (tm 84))]
def gY:List SOp :=
 [o1 86 (.mv (tm 8)),
 o1 85 (.mv (tm 86))]
def gX:List SOp :=
 [o1 87 (.mv (tm 0)),
 o1 88 (.nilchk (tm 87)),
 o1 89 (.faddr 2 (tm 88)),
 o1 90 (.load false 1 (tm 89)),
 o1 91 (.mv (tm 7)),
 o1 92 (.mv (tm 9)),
 o1 93 (.iaddr 2 (tm 90) (tm 91)),
 o1 94 (.faddr 1 (tm 93)),
 o0 (.store 1 (tm 94) (tm 92))]
def gW:List (ah×Kd) :=
 [od 59 (.mv (tm 0)) .pure,
 od 60 (.mv (tm 0)) .pure,
 od 61 (.nilchk (tm 60)) (.read 0 0),
 od 62 (.faddr 2 (tm 61)) .pure,
 od 63 (.load false 1 (tm 62)) (.read 0 0),
 od 64 (.mv (tm 7)) .pure,
 od 65 (.faddr 0 (tm 4)) .pure,
 od 66 (.load false 1 (tm 65)) (.read 0 0),
 od 67 (.mv (tm 9)) .pure,
 od 68 (.build [(.str []),(.sl [] 0 (some 0))] [(0,(1,(tm 66))),(1,(1,(tm 67)))]) .pure,
 od 69 (.bslice false 2 1 [(.str []),(.sl [] 0 (some 0))] [(0,(2,(tm 68)))]) (.read 0 0),
 od 70 (.call 77 [(tm 63),(tm 64),(tm 69)]) .eff]
def gk:List ah :=
 [⟨(some 71),(.nilchk (tm 59)),none⟩,
 ⟨(some 72),(.faddr 2 (tm 71)),none⟩,
 ⟨none,(.store 1 (tm 72) (tm 70)),none⟩]
def gV:List SOp :=
 [o1 6 (.mv (iv 0))]
def fS:aU:=⟨95,(.seq (.sreg iN [])
 (.seq (.sdreg iM [.pure,(.read 0 0),.pure,(.read 0 0),.pure,(.read 0 0),(.read 0 0),.pure,.pure,.pure,.pure] [true,true,false,false,false,false,false,false,false,false,false,false])
 (.seq (.sreg iL [])
 (.seq (.seq (.sreg iK [])
 (.cond (tm 25) (.sreg iJ [true,false,false,false,false,false,false,false,false])
 .skip))
 (.seq (.seq (.sreg iI [])
 (.block 0 (.loop (.seq (.sreg iH [])
 (.seq (.cond (tm 37) .skip
 (.exit 0))
 (.seq (.block 1 (.seq (.sreg iG [true,false,false])
 (.seq (.sreg iF [true,true,true,false,false,false,false,false,false,false,false])
 (.seq (.block 2 (.seq (.sreg iE [true,false,false])
 (.cond (tm 48) (.seq (.sreg ib [])
 .ret)
 (.seq (.sreg ia [true,false])
 (.cond (tm 51) (.seq (.sreg hZ [])
 .ret)
 .skip)))))
 (.sreg hU [true,false,false,false,false,false])))))
 (.sreg hP [true,false])))))))
 (.seq (.block 3 (.seq (.sreg hG [true,false,false,false,false])
 (.cond (tm 73) (.seq (.sreg hF [])
 .ret)
 (.seq (.sreg gZ [true,false,false,false])
 (.cond (tm 81) .skip
 (.seq (.sreg gY [true,false])
 (.cond (tm 85) (.sreg gX [false,false,false,false,false,false,false,false])
 (.dregM gW gk [false,false,false,false,false,false,false,false,false,false,false,false,false,false]))))))))
 (.seq (.sreg gV [])
 .ret))))))),[(.tmp 6)]⟩
attribute [push_cast] iN iM iL iK iJ iI iH iG iF iE ib ia hZ hU hP hG hF gZ gY gX gW gk gV
theorem xh:aW Tryz.prog (fun r i=>if r=15∧i=11 then 3 else 1) 50=some fS.raw:=by kernel_rfl
def Zp:List SOp :=
 [o1 4 (.box (tm 1)),
 o1 6 (.mv (iv 0))]
def Zo:List SOp :=
 [o1 16 (.mv (tm 0)),
 o1 17 (.nilchk (tm 16)),
 o1 18 (.faddr 2 (tm 17)),
 o1 19 (.load false 1 (tm 18)),
 o1 20 (.faddr 0 (tm 4)),
 o1 21 (.load false 1 (tm 20)),
 o1 22 (.call 54 [(tm 19),(tm 21)]),
 o1 15 (.mv (tm 22)),
 o1 23 (.extract (tm 15) 0),
 o1 24 (.extract (tm 15) 1),
 o1 7 (.mv (tm 23)),
 o1 8 (.mv (tm 24))]
def Zd:List SOp :=
 [o1 9 (.mv (.av (.sl [] 0 (some 0))))]
def Zb:List SOp :=
 [o1 25 (.mv (tm 8))]
def Za:List SOp :=
 [o1 26 (.mv (tm 0)),
 o1 27 (.nilchk (tm 26)),
 o1 28 (.faddr 2 (tm 27)),
 o1 29 (.load false 1 (tm 28)),
 o1 30 (.mv (tm 7)),
 o1 31 (.iaddr 2 (tm 29) (tm 30)),
 o1 32 (.faddr 1 (tm 31)),
 o1 33 (.load false 1 (tm 32)),
 o1 9 (.mv (tm 33))]
def Y9:List SOp :=
 [o1 34 (.mv (tm 2)),
 o1 35 (.len false (tm 34)),
 o1 36 (.mv (iv 0))]
def Y8:List SOp :=
 [o1 37 (.bin .lss (tm 36) (tm 35))]
def Y7:List SOp :=
 [o1 38 (.iaddr 1 (tm 34) (tm 36)),
 o1 39 (.load false 1 (tm 38)),
 o1 11 (.mv (tm 39))]
def Y6:List SOp :=
 [o1 41 (.load true 4 (tm 4)),
 o1 42 (.mv (tm 9)),
 o1 43 (.mv (tm 11)),
 o1 44 (.call 56 [(tm 41),(tm 42),(tm 43)]),
 o1 40 (.mv (tm 44)),
 o1 45 (.extract (tm 40) 0),
 o1 46 (.extract (tm 40) 1),
 o1 47 (.extract (tm 40) 2),
 o1 12 (.mv (tm 45)),
 o1 13 (.mv (tm 46)),
 o1 14 (.mv (tm 47))]
def Y5:List SOp :=
 [o1 49 (.mv (tm 14)),
 o1 50 (.un .not (tm 49)),
 o1 48 (.mv (tm 50))]
def Zn:List SOp :=
 [o1 6 (.mv (iv 21))]
def Zm:List SOp :=
 [o1 52 (.mv (tm 13)),
 o1 53 (.un .not (tm 52)),
 o1 51 (.mv (tm 53))]
def Zl:List SOp :=
 [o1 6 (.mv (iv 16))]
def Zk:List SOp :=
 [o1 54 (.mv (tm 9)),
 o1 55 (.mv (tm 12)),
 o1 56 (.mv (tm 12)),
 o1 57 (.bin .add (tm 56) (iv 1)),
 o1 58 (.call 104 [(tm 54),(tm 55),(tm 57)]),
 o1 9 (.mv (tm 58))]
def Zj:List SOp :=
 [o1 59 (.bin .add (tm 36) (iv 1)),
 o1 36 (.mv (tm 59))]
def Zi:List SOp :=
 [o1 69 (.mv (tm 8)),
 o1 70 (.un .not (tm 69)),
 o1 68 (.mv (tm 70))]
def Zh:List SOp :=
 [o1 6 (.mv (iv 16))]
def Zg:List SOp :=
 [o1 72 (.mv (tm 2)),
 o1 73 (.len false (tm 72)),
 o1 74 (.bin .eql (tm 73) (iv 0)),
 o1 75 (.mv (tm 74)),
 .grp none 75 false
 [og 76 75 false (.mv (tm 9)),
 og 77 75 false (.len false (tm 76)),
 og 78 75 false (.bin .eql (tm 77) (iv 0))]
 79 (tm 78),
 o1 71 (.mv (tm 79))]
def Zf:List SOp :=
 [o1 80 (.mv (tm 0)),
 o1 81 (.mv (tm 0)),
 o1 82 (.nilchk (tm 81)),
 o1 83 (.faddr 2 (tm 82)),
 o1 84 (.load false 1 (tm 83)),
 o1 85 (.mv (tm 7)),
 o1 86 (.mv (tm 7)),
 o1 87 (.bin .add (tm 86) (iv 1)),
 o1 88 (.call 74 [(tm 84),(tm 85),(tm 87)]),
 o1 89 (.nilchk (tm 80)),
 o1 90 (.faddr 2 (tm 89)),
 o0 (.store 1 (tm 90) (tm 88))]
def Ze:List SOp :=
 [o1 60 (.mv (tm 0)),
 o1 61 (.nilchk (tm 60)),
 o1 62 (.faddr 2 (tm 61)),
 o1 63 (.load false 1 (tm 62)),
 o1 64 (.mv (tm 7)),
 o1 65 (.mv (tm 9)),
 o1 66 (.iaddr 2 (tm 63) (tm 64)),
 o1 67 (.faddr 1 (tm 66)),
 o0 (.store 1 (tm 67) (tm 65))]
def Zc:List SOp :=
 [o1 6 (.mv (iv 0))]
def abj:aU:=⟨91,(.seq (.sreg Zp [])
 (.seq (.sdreg Zo [.pure,(.read 0 0),.pure,(.read 0 0),.pure,(.read 0 0),(.read 0 0),.pure,.pure,.pure,.pure] [true,true,false,false,false,false,false,false,false,false,false,false])
 (.seq (.sreg Zd [])
 (.seq (.seq (.sreg Zb [])
 (.cond (tm 25) (.sreg Za [true,false,false,false,false,false,false,false,false])
 .skip))
 (.seq (.seq (.sreg Y9 [])
 (.block 0 (.loop (.seq (.sreg Y8 [])
 (.seq (.cond (tm 37) .skip
 (.exit 0))
 (.seq (.block 1 (.seq (.sreg Y7 [true,false,false])
 (.seq (.sreg Y6 [true,true,true,false,false,false,false,false,false,false,false])
 (.seq (.block 2 (.seq (.sreg Y5 [true,false,false])
 (.cond (tm 48) (.seq (.sreg Zn [])
 .ret)
 (.seq (.sreg Zm [true,false,false])
 (.cond (tm 51) (.seq (.sreg Zl [])
 .ret)
 .skip)))))
 (.sreg Zk [true,false,false,false,false,false])))))
 (.sreg Zj [true,false])))))))
 (.seq (.block 3 (.seq (.sreg Zi [true,false,false])
 (.cond (tm 68) (.seq (.sreg Zh [])
 .ret)
 (.seq (.sreg Zg [true,false,false,false,false,false])
 (.cond (tm 71) (.sreg Zf [false,false,false,false,false,false,false,false,false,false,false])
 (.sreg Ze [false,false,false,false,false,false,false,false]))))))
 (.seq (.sreg Zc [])
 .ret))))))),[(.tmp 6)]⟩
attribute [push_cast] Zp Zo Zd Zb Za Y9 Y8 Y7 Y6 Y5 Zn Zm Zl Zk Zj Zi Zh Zg Zf Ze Zc
theorem abi:aW Tryz.prog (fun _ _=>1) 73=some abj.raw:=by kernel_rfl
def Y4:List SOp :=
 [o1 3 (.box (tm 1)),
 o1 4 (.mv (iv 0))]
def Y3:List SOp :=
 [o1 9 (.faddr 0 (tm 3)),
 o1 10 (.load false 1 (tm 9)),
 o1 11 (.bin .lss (tm 10) (iv 0)),
 o1 12 (.mv (tm 11)),
 .grp none 12 false
 [og 13 12 false (.faddr 0 (tm 3)),
 og 14 12 false (.load false 1 (tm 13)),
 og 15 12 false (.bin .gtr (tm 14) (iv 2))]
 16 (tm 15)]
def YU:List SOp :=
 [o1 4 (.mv (iv 2))]
def YT:List (ah×Kd) :=
 [od 18 (.mv (tm 0)) .pure,
 od 19 (.nilchk (tm 18)) (.read 0 1),
 od 20 (.faddr 0 (tm 19)) .pure,
 od 21 (.load true 2 (tm 20)) (.read 0 1),
 od 22 (.faddr 1 (tm 3)) .pure,
 od 23 (.load false 1 (tm 22)) (.read 0 1),
 od 24 (.call 49 [(tm 21),(tm 23)]) (.read 0 1),
 od 17 (.mv (tm 24)) .pure,
 od 25 (.extract (tm 17) 0) .pure,
 od 26 (.extract (tm 17) 1) .pure,
 od 5 (.alloc [(.str []),(.int .i64 0),(.bool false),(.bool false)]) .eff,
 (⟨none,(.store 4 (tm 5) (tm 25)),none⟩,.eff)]
def YS:List ah :=
 [⟨(some 6),(.mv (tm 26)),none⟩]
def YR:List SOp :=
 [o1 27 (.mv (tm 6)),
 o1 28 (.un .not (tm 27))]
def YQ:List SOp :=
 [o1 4 (.mv (iv 17))]
def YP:List SOp :=
 [o1 29 (.faddr 0 (tm 3)),
 o1 30 (.load false 1 (tm 29))]
def YO:List SOp :=
 [o1 32 (.bin .eql (tm 30) (iv 0)),
 o1 31 (.mv (tm 32))]
def YN:List SOp :=
 [o1 33 (.faddr 2 (tm 3)),
 o1 34 (.load false 1 (tm 33)),
 o1 35 (.len false (tm 34)),
 o1 36 (.bin .eql (tm 35) (iv 0))]
def YM:List SOp :=
 [o1 4 (.mv (iv 2))]
def Y1:List SOp :=
 [o1 38 (.bin .eql (tm 30) (iv 1)),
 o1 37 (.mv (tm 38))]
def Y0:List SOp :=
 [o1 39 (.mv (tm 0)),
 o1 40 (.load true 4 (tm 5)),
 o1 41 (.faddr 2 (tm 3)),
 o1 42 (.load false 1 (tm 41)),
 o1 43 (.call 73 [(tm 39),(tm 40),(tm 42)]),
 o1 4 (.mv (tm 43))]
def YZ:List SOp :=
 [o1 45 (.bin .eql (tm 30) (iv 2)),
 o1 44 (.mv (tm 45))]
def YY:List SOp :=
 [o1 47 (.mv (tm 0)),
 o1 48 (.nilchk (tm 47)),
 o1 49 (.faddr 2 (tm 48)),
 o1 50 (.load false 1 (tm 49)),
 o1 51 (.faddr 0 (tm 5)),
 o1 52 (.load false 1 (tm 51)),
 o1 53 (.call 54 [(tm 50),(tm 52)]),
 o1 46 (.mv (tm 53)),
 o1 54 (.extract (tm 46) 0),
 o1 55 (.extract (tm 46) 1),
 o1 7 (.mv (tm 54)),
 o1 8 (.mv (tm 55))]
def YX:List SOp :=
 [o1 56 (.mv (tm 8))]
def YW:List SOp :=
 [o1 57 (.mv (tm 0)),
 o1 58 (.mv (tm 0)),
 o1 59 (.nilchk (tm 58)),
 o1 60 (.faddr 2 (tm 59)),
 o1 61 (.load false 1 (tm 60)),
 o1 62 (.mv (tm 7)),
 o1 63 (.mv (tm 7)),
 o1 64 (.bin .add (tm 63) (iv 1)),
 o1 65 (.call 74 [(tm 61),(tm 62),(tm 64)]),
 o1 66 (.nilchk (tm 57)),
 o1 67 (.faddr 2 (tm 66)),
 o0 (.store 1 (tm 67) (tm 65))]
def YV:List SOp :=
 [o1 68 (.mv (tm 0)),
 o1 69 (.load true 4 (tm 5)),
 o1 70 (.faddr 2 (tm 3)),
 o1 71 (.load false 1 (tm 70)),
 o1 72 (.call 50 [(tm 68),(tm 69),(tm 71)]),
 o1 4 (.mv (tm 72))]
def abh:aU:=⟨73,(.seq (.sreg Y4 [])
 (.seq (.seq (.sreg Y3 [true,false,false,false,false])
 (.cond (tm 16) (.seq (.sreg YU [])
 .ret)
 .skip))
 (.seq (.dregM YT YS [true,true,false,false,false,false,false,false,false,false,false,false])
 (.seq (.seq (.sreg YR [true,false])
 (.cond (tm 28) (.seq (.sreg YQ [])
 .ret)
 .skip))
 (.seq (.seq (.sreg YP [true,false])
 (.block 0 (.seq (.sreg YO [true,false])
 (.cond (tm 31) (.seq (.sreg YN [true,false,false,false])
 (.cond (tm 36) (.seq (.sreg YM [])
 .ret)
 .skip))
 (.seq (.sreg Y1 [true,false])
 (.cond (tm 37) (.seq (.sreg Y0 [true,false,false,false,false,false])
 .ret)
 (.seq (.sreg YZ [true,false])
 (.cond (tm 44) (.seq (.sdreg YY [.pure,(.read 0 0),.pure,(.read 0 0),.pure,(.read 0 0),(.read 0 0),.pure,.pure,.pure,.pure] [true,true,false,false,false,false,false,false,false,false,false,false])
 (.seq (.sreg YX [])
 (.cond (tm 56) (.sreg YW [false,false,false,false,false,false,false,false,false,false,false])
 .skip)))
 .skip))))))))
 (.seq (.sreg YV [true,false,false,false,false,false])
 .ret)))))),[(.tmp 4)]⟩
attribute [push_cast] Y4 Y3 YU YT YS YR YQ YP YO YN YM Y1 Y0 YZ YY YX YW YV
theorem abg:aW Tryz.prog (fun _ _=>1) 48=some abh.raw:=by kernel_rfl
def wH:List SOp :=
 [o1 2 (.box (tm 0)),
 o1 4 (.mv (.av (.sl [] 0 (some 0)))),
 o1 5 (.mv (iv 0))]
def wG:List SOp :=
 [o1 12 (.load true 2 (tm 2)),
 o1 13 (.build [(.sl [] 0 (some 0)),(.sl [] 0 (some 0)),(.sl [] 0 (some 0))] [(0,(2,(tm 12)))]),
 o1 14 (.box (tm 13)),
 o1 6 (.mv (tm 14))]
def wF:List SOp :=
 [o1 15 (.mv (tm 1)),
 o1 16 (.len false (tm 15)),
 o1 17 (.mv (iv 0))]
def wE:List SOp :=
 [o1 18 (.bin .lss (tm 17) (tm 16))]
def wD:List SOp :=
 [o1 19 (.iaddr 2 (tm 15) (tm 17)),
 o1 20 (.load true 2 (tm 19)),
 o1 8 (.alloc [(.str []),(.sl [] 0 (some 0))]),
 o0 (.store 2 (tm 8) (tm 20))]
def wC:List SOp :=
 [o1 22 (.load true 2 (tm 2)),
 o1 23 (.faddr 0 (tm 8)),
 o1 24 (.load false 1 (tm 23)),
 o1 25 (.call 49 [(tm 22),(tm 24)]),
 o1 21 (.mv (tm 25)),
 o1 26 (.extract (tm 21) 0),
 o1 27 (.extract (tm 21) 1),
 o1 9 (.alloc [(.str []),(.int .i64 0),(.bool false),(.bool false)]),
 o0 (.store 4 (tm 9) (tm 26)),
 o1 10 (.mv (tm 27))]
def wB:List SOp :=
 [o1 29 (.mv (tm 10)),
 o1 30 (.un .not (tm 29)),
 o1 28 (.mv (tm 30))]
def wA:List SOp :=
 [o1 4 (.mv (.av (.sl [] 0 (some 0)))),
 o1 5 (.mv (iv 17))]
def wz:List SOp :=
 [o1 32 (.faddr 1 (tm 8)),
 o1 33 (.load false 1 (tm 32)),
 o1 34 (.len false (tm 33)),
 o1 35 (.bin .eql (tm 34) (iv 0)),
 o1 31 (.mv (tm 35))]
def wy:List SOp :=
 [o1 4 (.mv (.av (.sl [] 0 (some 0)))),
 o1 5 (.mv (iv 19))]
def sL:List SOp :=
 [o1 36 (.mv (tm 6)),
 o1 37 (.load true 4 (tm 9)),
 o1 38 (.faddr 1 (tm 8)),
 o1 39 (.load false 1 (tm 38)),
 o1 40 (.call 50 [(tm 36),(tm 37),(tm 39)]),
 o1 11 (.mv (tm 40))]
def sK:List SOp :=
 [o1 41 (.mv (tm 11)),
 o1 42 (.bin .neq (tm 41) (iv 0))]
def sJ:List SOp :=
 [o1 43 (.mv (tm 11)),
 o1 4 (.mv (.av (.sl [] 0 (some 0)))),
 o1 5 (.mv (tm 43))]
def sI:List SOp :=
 [o1 44 (.bin .add (tm 17) (iv 1)),
 o1 17 (.mv (tm 44))]
def sH:List SOp :=
 [o1 45 (.mv (tm 6)),
 o1 46 (.nilchk (tm 45)),
 o1 47 (.faddr 2 (tm 46)),
 o1 48 (.load false 1 (tm 47)),
 o1 4 (.mv (tm 48)),
 o1 5 (.mv (iv 0))]
def pl:aU:=⟨49,(.seq (.sreg wH [])
 (.seq (.sreg wG [true,false,false,false])
 (.seq (.seq (.sreg wF [])
 (.block 0 (.loop (.seq (.sreg wE [])
 (.seq (.cond (tm 18) .skip
 (.exit 0))
 (.seq (.block 1 (.seq (.sreg wD [true,false,false])
 (.seq (.sreg wC [true,true,false,false,false,false,false,false,false])
 (.seq (.block 2 (.seq (.sreg wB [true,false,false])
 (.cond (tm 28) (.seq (.sreg wA [])
 .ret)
 (.seq (.sreg wz [true,false,false,false,false])
 (.cond (tm 31) (.seq (.sreg wy [])
 .ret)
 .skip)))))
 (.seq (.sreg sL [true,false,false,false,false,false])
 (.seq (.sreg sK [true,false])
 (.cond (tm 42) (.seq (.sreg sJ [true,true,false])
 .ret)
 .skip)))))))
 (.sreg sI [true,false])))))))
 (.seq (.sreg sH [true,true,false,false,false,false])
 .ret)))),[(.tmp 4),(.tmp 5)]⟩
attribute [push_cast] wH wG wF wE wD wC wB wA wz wy sL sK sJ sI sH
theorem EF:aW Tryz.prog (fun _ _=>1) 26=some pl.raw:=by kernel_rfl
def ZB:List SOp :=
 [o1 4 (.mv (.av (.sl [] 0 (some 0))))]
def ZA:List SOp :=
 [o1 8 (.mv (tm 0)),
 o1 9 (.mv (tm 1)),
 o1 10 (.call 54 [(tm 8),(tm 9)]),
 o1 7 (.mv (tm 10)),
 o1 11 (.extract (tm 7) 0),
 o1 12 (.extract (tm 7) 1),
 o1 5 (.mv (tm 11)),
 o1 6 (.mv (tm 12))]
def Zz:List SOp :=
 [o1 13 (.mv (tm 6))]
def Zy:List SOp :=
 [o1 14 (.mv (tm 0)),
 o1 15 (.mv (tm 5)),
 o1 16 (.iaddr 2 (tm 14) (tm 15)),
 o1 17 (.faddr 1 (tm 16)),
 o1 18 (.load false 1 (tm 17)),
 o1 19 (.call 55 [(tm 18)]),
 o1 4 (.mv (tm 19))]
def Zx:List SOp :=
 [o1 4 (.mv (.av (.sl [] 0 (some 0))))]
def abn:aU:=⟨20,(.seq (.sreg ZB [])
 (.seq (.seq (.sreg ZA [true,true,false,false,false,false,false,false])
 (.seq (.sreg Zz [])
 (.cond (tm 13) (.seq (.sreg Zy [true,false,false,false,false,false,false])
 .ret)
 .skip)))
 (.seq (.sreg Zx [])
 .ret))),[(.tmp 4)]⟩
attribute [push_cast] ZB ZA Zz Zy Zx
theorem abm:aW Tryz.prog (fun _ _=>1) 28=some abn.raw:=by kernel_rfl
def ZM:List SOp :=
 [o1 3 (.box (tm 0)),
 o1 6 (.mv (.av (.sl [] 0 (some 0)))),
 o1 7 (.mv (iv 0))]
def ZL:List (ah×Kd) :=
 [od 12 (.load true 2 (tm 3)) (.read 0 1),
 od 13 (.mv (tm 1)) .pure,
 od 14 (.call 47 [(tm 13)]) .eff]
def ZK:List ah :=
 [⟨(some 15),(.build [(.sl [] 0 (some 0)),(.sl [] 0 (some 0)),(.sl [] 0 (some 0))] [(0,(2,(tm 12))),(2,(1,(tm 14)))]),none⟩,
 ⟨(some 16),(.box (tm 15)),none⟩,
 ⟨(some 8),(.mv (tm 16)),none⟩]
def ZJ:List SOp :=
 [o1 17 (.mv (tm 2)),
 o1 18 (.len false (tm 17)),
 o1 19 (.mv (iv 0))]
def ZI:List SOp :=
 [o1 20 (.bin .lss (tm 19) (tm 18))]
def ZH:List SOp :=
 [o1 21 (.iaddr 3 (tm 17) (tm 19)),
 o1 22 (.load true 3 (tm 21)),
 o1 10 (.alloc [(.int .i64 0),(.str []),(.sl [] 0 (some 0))]),
 o0 (.store 3 (tm 10) (tm 22))]
def ZG:List SOp :=
 [o1 23 (.mv (tm 8)),
 o1 24 (.load true 3 (tm 10)),
 o1 25 (.call 48 [(tm 23),(tm 24)]),
 o1 11 (.mv (tm 25))]
def ZF:List SOp :=
 [o1 26 (.mv (tm 11)),
 o1 27 (.bin .neq (tm 26) (iv 0))]
def ZE:List SOp :=
 [o1 28 (.mv (tm 11)),
 o1 6 (.mv (.av (.sl [] 0 (some 0)))),
 o1 7 (.mv (tm 28))]
def ZD:List SOp :=
 [o1 29 (.bin .add (tm 19) (iv 1)),
 o1 19 (.mv (tm 29))]
def ZC:List SOp :=
 [o1 30 (.mv (tm 8)),
 o1 31 (.nilchk (tm 30)),
 o1 32 (.faddr 2 (tm 31)),
 o1 33 (.load false 1 (tm 32)),
 o1 6 (.mv (tm 33)),
 o1 7 (.mv (iv 0))]
def abp:aU:=⟨34,(.seq (.sreg ZM [])
 (.seq (.dregM ZL ZK [true,false,false,false,false,false])
 (.seq (.seq (.sreg ZJ [])
 (.block 0 (.loop (.seq (.sreg ZI [])
 (.seq (.cond (tm 20) .skip
 (.exit 0))
 (.seq (.block 1 (.seq (.sreg ZH [true,false,false])
 (.seq (.sreg ZG [true,false,false,false])
 (.seq (.sreg ZF [true,false])
 (.cond (tm 27) (.seq (.sreg ZE [true,true,false])
 .ret)
 .skip)))))
 (.sreg ZD [true,false])))))))
 (.seq (.sreg ZC [true,true,false,false,false,false])
 .ret)))),[(.tmp 6),(.tmp 7)]⟩
attribute [push_cast] ZM ZL ZK ZJ ZI ZH ZG ZF ZE ZD ZC
theorem abo:aW Tryz.prog (fun r i=>if r=1∧i=2 then 3 else 1) 24=some abp.raw:=by kernel_rfl
def pH:List SOp :=
 [o1 2 (.box (tm 0)),
 o1 4 (.alloc [(.str []),(.int .i64 0),(.bool false),(.bool false)]),
 o1 5 (.mv (.av (.bool false)))]
def pG:List SOp :=
 [o1 6 (.load true 2 (tm 2)),
 o1 7 (.build [(.sl [] 0 (some 0)),(.sl [] 0 (some 0))] [(0,(2,(tm 6)))]),
 o1 8 (.mv (tm 1)),
 o1 9 (.call 75 [(tm 7),(tm 8)]),
 o1 10 (.extract (tm 9) 0),
 o1 11 (.extract (tm 9) 1),
 o0 (.store 4 (tm 4) (tm 10)),
 o1 5 (.mv (tm 11))]
def kH:aU:=⟨12,(.seq (.sreg pH [])
 (.seq (.sreg pG [true,false,false,false,false,false,false])
 .ret)),[(.cell true 4 4),(.tmp 5)]⟩
attribute [push_cast] pH pG
theorem Dk:aW Tryz.prog (fun _ _=>1) 49=some kH.raw:=by kernel_rfl
def gN:List SOp :=
 [o1 2 (.box (tm 0)),
 o1 3 (.box (tm 1)),
 o1 4 (.alloc [(.str []),(.int .i64 0),(.bool false),(.bool false)]),
 o1 5 (.mv (.av (.bool false)))]
def gM:List SOp :=
 [o1 7 (.faddr 0 (tm 2)),
 o1 8 (.faddr 0 (tm 7)),
 o1 9 (.load false 1 (tm 8)),
 o1 10 (.mkfn 106 [(tm 3)]),
 o1 11 (.call 105 [(tm 9),(tm 10)]),
 o1 6 (.mv (tm 11))]
def gL:List SOp :=
 [o1 12 (.mv (tm 6)),
 o1 13 (.bin .lss (tm 12) (iv 0))]
def gK:List SOp :=
 [o1 14 (.build [(.str []),(.int .i64 0),(.bool false),(.bool false)] []),
 o0 (.store 4 (tm 4) (tm 14)),
 o1 5 (.mv (.av (.bool false)))]
def gJ:List SOp :=
 [o1 15 (.faddr 0 (tm 2)),
 o1 16 (.faddr 0 (tm 15)),
 o1 17 (.load false 1 (tm 16)),
 o1 18 (.mv (tm 6)),
 o1 19 (.iaddr 4 (tm 17) (tm 18)),
 o1 20 (.load true 4 (tm 19)),
 o0 (.store 4 (tm 4) (tm 20)),
 o1 5 (.mv (.av (.bool true)))]
def fu:aU:=⟨21,(.seq (.sreg gN [])
 (.seq (.sreg gM [true,false,false,false,false,false])
 (.seq (.seq (.sreg gL [true,false])
 (.cond (tm 13) (.seq (.sreg gK [true,false])
 .ret)
 .skip))
 (.seq (.sreg gJ [true,false,false,false,false,false,false])
 .ret)))),[(.cell true 4 4),(.tmp 5)]⟩
attribute [push_cast] gN gM gL gK gJ
theorem sY:aW Tryz.prog (fun _ _=>1) 75=some fu.raw:=by kernel_rfl
def fJ:List SOp :=
 [o1 2 (.box (tm 0)),
 o1 3 (.mv (.av (.bool false)))]
def fI:List SOp :=
 [o1 4 (.faddr 0 (tm 2)),
 o1 5 (.load false 1 (tm 4)),
 o1 6 (.load false 1 (tm 1)),
 o1 7 (.call 107 [(tm 5),(tm 6)]),
 o1 3 (.mv (tm 7))]
def eL:aU:=⟨8,(.seq (.sreg fJ [])
 (.seq (.sreg fI [true,false,false,false,false])
 .ret)),[(.tmp 3)]⟩
attribute [push_cast] fJ fI
theorem ov:aW Tryz.prog (fun _ _=>1) 106=some eL.raw:=by kernel_rfl
def pF:List SOp :=
 [o1 4 (.mv (.av (.bool false)))]
def pE:List SOp :=
 [o1 5 (.mv (tm 0)),
 o1 6 (.call 84 [(tm 5)]),
 o1 7 (.mv (tm 1)),
 o1 8 (.call 84 [(tm 7)]),
 o1 9 (.bin .eql (tm 6) (tm 8)),
 o1 4 (.mv (tm 9))]
def kG:aU:=⟨10,(.seq (.sreg pF [])
 (.seq (.sreg pE [true,false,false,false,false,false])
 .ret)),[(.tmp 4)]⟩
attribute [push_cast] pF pE
theorem Dj:aW Tryz.prog (fun _ _=>1) 107=some kG.raw:=by kernel_rfl
def cw:List SOp :=
 [o1 4 (.mv (iv 0))]
def cv:List SOp :=
 [o1 6 (.mv (tm 0)),
 o1 7 (.len false (tm 6)),
 o1 8 (.mv (iv 0))]
def cr:List SOp :=
 [o1 9 (.bin .lss (tm 8) (tm 7))]
def cq:List SOp :=
 [o1 10 (.mv (tm 8)),
 o1 5 (.mv (tm 10))]
def cn:List SOp :=
 [o1 11 (.mv (tm 1)),
 o1 12 (.mv (tm 0)),
 o1 13 (.mv (tm 5)),
 o1 14 (.iaddr 4 (tm 12) (tm 13)),
 o1 15 (.load true 4 (tm 14)),
 o1 16 (.callv (tm 11) [(tm 15)])]
def cm:List SOp :=
 [o1 17 (.mv (tm 5)),
 o1 4 (.mv (tm 17))]
def cj:List SOp :=
 [o1 18 (.bin .add (tm 8) (iv 1)),
 o1 8 (.mv (tm 18))]
def ci:List SOp :=
 [o1 4 (.mv (iv (-1)))]
def bQ:aU:=⟨19,(.seq (.sreg cw [])
 (.seq (.seq (.sreg cv [true,true,false])
 (.block 0 (.loop (.seq (.sreg cr [])
 (.seq (.cond (tm 9) .skip
 (.exit 0))
 (.seq (.block 1 (.seq (.sreg cq [true,false])
 (.seq (.sreg cn [true,false,false,false,false,false])
 (.cond (tm 16) (.seq (.sreg cm [true,false])
 .ret)
 .skip))))
 (.sreg cj [true,false])))))))
 (.seq (.sreg ci [])
 .ret))),[(.tmp 4)]⟩
attribute [push_cast] cw cv cr cq cn cm cj ci
theorem eF:aW Tryz.prog (fun _ _=>1) 105=some bQ.raw:=by kernel_rfl
def bA:List SOp :=
 [o1 6 (.mv (iv 0)),
 o1 7 (.mv (.av (.bool false)))]
def bz:List SOp :=
 [o1 12 (.mv (tm 0)),
 o1 13 (.len false (tm 12)),
 o1 8 (.mv (tm 13))]
def bx:List SOp :=
 [o1 14 (.mv (tm 8)),
 o1 9 (.mv (iv 0)),
 o1 10 (.mv (tm 14))]
def bw:List SOp :=
 [o1 15 (.mv (tm 9)),
 o1 16 (.mv (tm 10)),
 o1 17 (.bin .lss (tm 15) (tm 16))]
def bv:List SOp :=
 [o1 18 (.mv (tm 9)),
 o1 19 (.mv (tm 10)),
 o1 20 (.bin .add (tm 18) (tm 19)),
 o1 21 (.conv .u64 (tm 20)),
 o1 22 (.bin .shr (tm 21) (.av (.int .u64 1))),
 o1 23 (.conv .i64 (tm 22)),
 o1 11 (.mv (tm 23))]
def bu:List SOp :=
 [o1 24 (.mv (tm 2)),
 o1 25 (.mv (tm 0)),
 o1 26 (.mv (tm 11)),
 o1 27 (.iaddr 2 (tm 25) (tm 26)),
 o1 28 (.load true 2 (tm 27)),
 o1 29 (.mv (tm 1)),
 o1 30 (.callv (tm 24) [(tm 28),(tm 29)]),
 o1 31 (.bin .lss (tm 30) (iv 0))]
def bt:List SOp :=
 [o1 32 (.mv (tm 11)),
 o1 33 (.bin .add (tm 32) (iv 1)),
 o1 9 (.mv (tm 33))]
def br:List SOp :=
 [o1 34 (.mv (tm 11)),
 o1 10 (.mv (tm 34))]
def bq:List SOp :=
 [o1 35 (.mv (tm 9)),
 o1 36 (.mv (tm 9)),
 o1 37 (.mv (tm 8)),
 o1 38 (.bin .lss (tm 36) (tm 37)),
 o1 39 (.mv (tm 38)),
 .grp none 39 true
 [og 40 39 true (.mv (tm 2)),
 og 41 39 true (.mv (tm 0)),
 og 42 39 true (.mv (tm 9)),
 og 43 39 true (.iaddr 2 (tm 41) (tm 42)),
 og 44 39 true (.load true 2 (tm 43)),
 og 45 39 true (.mv (tm 1)),
 og 46 39 true (.callv (tm 40) [(tm 44),(tm 45)]),
 og 47 39 true (.bin .eql (tm 46) (iv 0))]
 48 (tm 47),
 o1 6 (.mv (tm 35)),
 o1 7 (.mv (tm 48))]
def ay:aU:=⟨49,(.seq (.sreg bA [])
 (.seq (.sreg bz [true,false,false])
 (.seq (.sreg bx [true,true,false])
 (.seq (.block 0 (.loop (.seq (.seq (.sreg bw [true,false,false])
 (.cond (tm 17) .skip
 (.exit 0)))
 (.block 1 (.seq (.sreg bv [true,false,false,false,false,false,false])
 (.seq (.sreg bu [true,false,false,false,false,false,false,false])
 (.cond (tm 31) (.sreg bt [true,false,false])
 (.sreg br [true,false]))))))))
 (.seq (.sreg bq [true,true,false,false,false,false,false,false])
 .ret))))),[(.tmp 6),(.tmp 7)]⟩
attribute [push_cast] bA bz bx bw bv bu bt br bq
theorem bp:aW Tryz.prog (fun _ _=>1) 83=some ay.raw:=by kernel_rfl
def bP:List SOp :=
 [o1 6 (.mv (iv 0)),
 o1 7 (.mv (.av (.bool false)))]
def bO:List SOp :=
 [o1 12 (.mv (tm 0)),
 o1 13 (.len false (tm 12)),
 o1 8 (.mv (tm 13))]
def bN:List SOp :=
 [o1 14 (.mv (tm 8)),
 o1 9 (.mv (iv 0)),
 o1 10 (.mv (tm 14))]
def bM:List SOp :=
 [o1 15 (.mv (tm 9)),
 o1 16 (.mv (tm 10)),
 o1 17 (.bin .lss (tm 15) (tm 16))]
def bL:List SOp :=
 [o1 18 (.mv (tm 9)),
 o1 19 (.mv (tm 10)),
 o1 20 (.bin .add (tm 18) (tm 19)),
 o1 21 (.conv .u64 (tm 20)),
 o1 22 (.bin .shr (tm 21) (.av (.int .u64 1))),
 o1 23 (.conv .i64 (tm 22)),
 o1 11 (.mv (tm 23))]
def bK:List SOp :=
 [o1 24 (.mv (tm 2)),
 o1 25 (.mv (tm 0)),
 o1 26 (.mv (tm 11)),
 o1 27 (.iaddr 1 (tm 25) (tm 26)),
 o1 28 (.load false 1 (tm 27)),
 o1 29 (.mv (tm 1)),
 o1 30 (.callv (tm 24) [(tm 28),(tm 29)]),
 o1 31 (.bin .lss (tm 30) (iv 0))]
def bJ:List SOp :=
 [o1 32 (.mv (tm 11)),
 o1 33 (.bin .add (tm 32) (iv 1)),
 o1 9 (.mv (tm 33))]
def bI:List SOp :=
 [o1 34 (.mv (tm 11)),
 o1 10 (.mv (tm 34))]
def bH:List SOp :=
 [o1 35 (.mv (tm 9)),
 o1 36 (.mv (tm 9)),
 o1 37 (.mv (tm 8)),
 o1 38 (.bin .lss (tm 36) (tm 37)),
 o1 39 (.mv (tm 38)),
 .grp none 39 true
 [og 40 39 true (.mv (tm 2)),
 og 41 39 true (.mv (tm 0)),
 og 42 39 true (.mv (tm 9)),
 og 43 39 true (.iaddr 1 (tm 41) (tm 42)),
 og 44 39 true (.load false 1 (tm 43)),
 og 45 39 true (.mv (tm 1)),
 og 46 39 true (.callv (tm 40) [(tm 44),(tm 45)]),
 og 47 39 true (.bin .eql (tm 46) (iv 0))]
 48 (tm 47),
 o1 6 (.mv (tm 35)),
 o1 7 (.mv (tm 48))]
def az:aU:=⟨49,(.seq (.sreg bP [])
 (.seq (.sreg bO [true,false,false])
 (.seq (.sreg bN [true,true,false])
 (.seq (.block 0 (.loop (.seq (.seq (.sreg bM [true,false,false])
 (.cond (tm 17) .skip
 (.exit 0)))
 (.block 1 (.seq (.sreg bL [true,false,false,false,false,false,false])
 (.seq (.sreg bK [true,false,false,false,false,false,false,false])
 (.cond (tm 31) (.sreg bJ [true,false,false])
 (.sreg bI [true,false]))))))))
 (.seq (.sreg bH [true,true,false,false,false,false,false,false])
 .ret))))),[(.tmp 6),(.tmp 7)]⟩
attribute [push_cast] bP bO bN bM bL bK bJ bI bH
theorem bF:aW Tryz.prog (fun _ _=>1) 88=some az.raw:=by kernel_rfl
def de:List SOp :=
 [o1 6 (.mv (.av (.sl [] 0 (some 0))))]
def dd:List SOp :=
 [o1 10 (.mv (tm 0)),
 o1 11 (.mv (tm 1)),
 o1 12 (.slV 2 (tm 10) (some (tm 11)) none none)]
def dc:List SOp :=
 [o1 13 (.mv (tm 2)),
 o1 14 (.len false (tm 13)),
 o1 7 (.mv (tm 14))]
def db:List SOp :=
 [o1 15 (.mv (tm 7)),
 o1 16 (.bin .eql (tm 15) (iv 0))]
def da:List SOp :=
 [o1 17 (.mv (tm 0)),
 o1 6 (.mv (tm 17))]
def c8:List SOp :=
 [o1 18 (.mv (tm 0)),
 o1 19 (.len false (tm 18)),
 o1 8 (.mv (tm 19))]
def c7:List SOp :=
 [o1 20 (.mv (tm 1)),
 o1 21 (.mv (tm 8)),
 o1 22 (.bin .eql (tm 20) (tm 21))]
def cZ:List SOp :=
 [o1 23 (.mv (tm 0)),
 o1 24 (.mv (tm 2)),
 o1 25 (.app 2 2 40 [(.str []),(.sl [] 0 (some 0))] (tm 23) (tm 24)),
 o1 6 (.mv (tm 25))]
def cY:List SOp :=
 [o1 26 (.mv (tm 8)),
 o1 27 (.mv (tm 7)),
 o1 28 (.bin .add (tm 26) (tm 27)),
 o1 29 (.mv (tm 0)),
 o1 30 (.cap (tm 29)),
 o1 31 (.bin .gtr (tm 28) (tm 30))]
def cX:List SOp :=
 [o1 32 (.mv (tm 0)),
 o1 33 (.mv (tm 1)),
 o1 34 (.slV 2 (tm 32) none (some (tm 33)) none),
 o1 35 (.mv (tm 8)),
 o1 36 (.mv (tm 7)),
 o1 37 (.bin .add (tm 35) (tm 36)),
 o1 38 (.mv (tm 1)),
 o1 39 (.bin .sub (tm 37) (tm 38)),
 o1 40 (.appz 2 40 [(.str []),(.sl [] 0 (some 0))] (tm 34) (tm 39)),
 o1 9 (.mv (tm 40))]
def cL:List SOp :=
 [o1 41 (.mv (tm 9)),
 o1 42 (.mv (tm 1)),
 o1 43 (.slV 2 (tm 41) (some (tm 42)) none none),
 o1 44 (.mv (tm 2)),
 o1 45 (.copy 2 (tm 43) (tm 44))]
def cK:List (ah×Kd) :=
 [od 46 (.mv (tm 9)) .pure,
 od 47 (.mv (tm 1)) .pure,
 od 48 (.mv (tm 7)) .pure,
 od 49 (.bin .add (tm 47) (tm 48)) .pure,
 od 50 (.slV 2 (tm 46) (some (tm 49)) none none) (.read 0 0),
 od 51 (.mv (tm 0)) .pure,
 od 52 (.mv (tm 1)) .pure,
 od 53 (.slV 2 (tm 51) (some (tm 52)) none none) (.read 0 0)]
def cA:List ah :=
 [⟨(some 54),(.copy 2 (tm 50) (tm 53)),none⟩]
def cJ:List SOp :=
 [o1 55 (.mv (tm 9)),
 o1 6 (.mv (tm 55))]
def cI:List SOp :=
 [o1 56 (.mv (tm 0)),
 o1 57 (.mv (tm 8)),
 o1 58 (.mv (tm 7)),
 o1 59 (.bin .add (tm 57) (tm 58)),
 o1 60 (.slV 2 (tm 56) none (some (tm 59)) none),
 o1 0 (.mv (tm 60))]
def cH:List SOp :=
 [o1 61 (.mv (tm 2)),
 o1 62 (.mv (tm 0)),
 o1 63 (.mv (tm 1)),
 o1 64 (.mv (tm 7)),
 o1 65 (.bin .add (tm 63) (tm 64)),
 o1 66 (.slV 2 (tm 62) (some (tm 65)) none none),
 o1 67 (.call 110 [(tm 61),(tm 66)]),
 o1 68 (.un .not (tm 67))]
def cG:List (ah×Kd) :=
 [od 69 (.mv (tm 0)) .pure,
 od 70 (.mv (tm 1)) .pure,
 od 71 (.mv (tm 7)) .pure,
 od 72 (.bin .add (tm 70) (tm 71)) .pure,
 od 73 (.slV 2 (tm 69) (some (tm 72)) none none) (.read 0 0),
 od 74 (.mv (tm 0)) .pure,
 od 75 (.mv (tm 1)) .pure,
 od 76 (.slV 2 (tm 74) (some (tm 75)) none none) (.read 0 0)]
def cz:List ah :=
 [⟨(some 77),(.copy 2 (tm 73) (tm 76)),none⟩]
def cF:List SOp :=
 [o1 78 (.mv (tm 0)),
 o1 79 (.mv (tm 1)),
 o1 80 (.slV 2 (tm 78) (some (tm 79)) none none),
 o1 81 (.mv (tm 2)),
 o1 82 (.copy 2 (tm 80) (tm 81))]
def cE:List SOp :=
 [o1 83 (.mv (tm 0)),
 o1 6 (.mv (tm 83))]
def cD:List SOp :=
 [o1 84 (.mv (tm 0)),
 o1 85 (.mv (tm 8)),
 o1 86 (.slV 2 (tm 84) (some (tm 85)) none none),
 o1 87 (.mv (tm 2)),
 o1 88 (.copy 2 (tm 86) (tm 87))]
def cC:List SOp :=
 [o1 89 (.mv (tm 0)),
 o1 90 (.mv (tm 1)),
 o1 91 (.slV 2 (tm 89) (some (tm 90)) none none),
 o1 92 (.mv (tm 7)),
 o1 93 (.call 111 [(tm 91),(tm 92)])]
def cB:List SOp :=
 [o1 94 (.mv (tm 0)),
 o1 6 (.mv (tm 94))]
def aY:aU:=⟨95,(.seq (.sreg de [])
 (.seq (.sreg dd [false,false,false])
 (.seq (.sreg dc [true,false,false])
 (.seq (.seq (.sreg db [true,false])
 (.cond (tm 16) (.seq (.sreg da [true,false])
 .ret)
 .skip))
 (.seq (.sreg c8 [true,false,false])
 (.seq (.seq (.sreg c7 [true,false,false])
 (.cond (tm 22) (.seq (.sreg cZ [true,false,false,false])
 .ret)
 .skip))
 (.seq (.seq (.sreg cY [true,false,false,false,false,false])
 (.cond (tm 31) (.seq (.sreg cX [true,false,false,false,false,false,false,false,false,false])
 (.seq (.sreg cL [false,false,false,false,false])
 (.seq (.dregM cK cA [false,false,false,false,false,false,false,false,false])
 (.seq (.sreg cJ [true,false])
 .ret))))
 .skip))
 (.seq (.sreg cI [true,false,false,false,false,false])
 (.seq (.seq (.sreg cH [true,false,false,false,false,false,false,false])
 (.cond (tm 68) (.seq (.dregM cG cz [false,false,false,false,false,false,false,false,false])
 (.seq (.sreg cF [false,false,false,false,false])
 (.seq (.sreg cE [true,false])
 .ret)))
 .skip))
 (.seq (.sreg cD [false,false,false,false,false])
 (.seq (.sreg cC [false,false,false,false,false])
 (.seq (.sreg cB [true,false])
 .ret)))))))))))),[(.tmp 6)]⟩
attribute [push_cast] de dd dc db da c8 c7 cZ cY cX cL cK cA cJ cI cH cG cz cF cE cD cC cB
theorem cU:aW Tryz.prog (fun r i=>if r=7∧i=2 then 2 else 1) 77=some aY.raw:=by kernel_rfl
def dW:List SOp :=
 [o1 6 (.mv (.av (.sl [] 0 (some 0))))]
def dV:List SOp :=
 [o1 10 (.mv (tm 0)),
 o1 11 (.mv (tm 1)),
 o1 12 (.slV 1 (tm 10) (some (tm 11)) none none)]
def dU:List SOp :=
 [o1 13 (.mv (tm 2)),
 o1 14 (.len false (tm 13)),
 o1 7 (.mv (tm 14))]
def dT:List SOp :=
 [o1 15 (.mv (tm 7)),
 o1 16 (.bin .eql (tm 15) (iv 0))]
def dS:List SOp :=
 [o1 17 (.mv (tm 0)),
 o1 6 (.mv (tm 17))]
def dR:List SOp :=
 [o1 18 (.mv (tm 0)),
 o1 19 (.len false (tm 18)),
 o1 8 (.mv (tm 19))]
def dQ:List SOp :=
 [o1 20 (.mv (tm 1)),
 o1 21 (.mv (tm 8)),
 o1 22 (.bin .eql (tm 20) (tm 21))]
def dP:List SOp :=
 [o1 23 (.mv (tm 0)),
 o1 24 (.mv (tm 2)),
 o1 25 (.app 2 1 16 [(.str [])] (tm 23) (tm 24)),
 o1 6 (.mv (tm 25))]
def dO:List SOp :=
 [o1 26 (.mv (tm 8)),
 o1 27 (.mv (tm 7)),
 o1 28 (.bin .add (tm 26) (tm 27)),
 o1 29 (.mv (tm 0)),
 o1 30 (.cap (tm 29)),
 o1 31 (.bin .gtr (tm 28) (tm 30))]
def dN:List SOp :=
 [o1 32 (.mv (tm 0)),
 o1 33 (.mv (tm 1)),
 o1 34 (.slV 1 (tm 32) none (some (tm 33)) none),
 o1 35 (.mv (tm 8)),
 o1 36 (.mv (tm 7)),
 o1 37 (.bin .add (tm 35) (tm 36)),
 o1 38 (.mv (tm 1)),
 o1 39 (.bin .sub (tm 37) (tm 38)),
 o1 40 (.appz 1 16 [(.str [])] (tm 34) (tm 39)),
 o1 9 (.mv (tm 40))]
def dJ:List SOp :=
 [o1 41 (.mv (tm 9)),
 o1 42 (.mv (tm 1)),
 o1 43 (.slV 1 (tm 41) (some (tm 42)) none none),
 o1 44 (.mv (tm 2)),
 o1 45 (.copy 1 (tm 43) (tm 44))]
def dI:List (ah×Kd) :=
 [od 46 (.mv (tm 9)) .pure,
 od 47 (.mv (tm 1)) .pure,
 od 48 (.mv (tm 7)) .pure,
 od 49 (.bin .add (tm 47) (tm 48)) .pure,
 od 50 (.slV 1 (tm 46) (some (tm 49)) none none) (.read 0 0),
 od 51 (.mv (tm 0)) .pure,
 od 52 (.mv (tm 1)) .pure,
 od 53 (.slV 1 (tm 51) (some (tm 52)) none none) (.read 0 0)]
def dv:List ah :=
 [⟨(some 54),(.copy 1 (tm 50) (tm 53)),none⟩]
def dH:List SOp :=
 [o1 55 (.mv (tm 9)),
 o1 6 (.mv (tm 55))]
def dG:List SOp :=
 [o1 56 (.mv (tm 0)),
 o1 57 (.mv (tm 8)),
 o1 58 (.mv (tm 7)),
 o1 59 (.bin .add (tm 57) (tm 58)),
 o1 60 (.slV 1 (tm 56) none (some (tm 59)) none),
 o1 0 (.mv (tm 60))]
def dF:List SOp :=
 [o1 61 (.mv (tm 2)),
 o1 62 (.mv (tm 0)),
 o1 63 (.mv (tm 1)),
 o1 64 (.mv (tm 7)),
 o1 65 (.bin .add (tm 63) (tm 64)),
 o1 66 (.slV 1 (tm 62) (some (tm 65)) none none),
 o1 67 (.call 108 [(tm 61),(tm 66)]),
 o1 68 (.un .not (tm 67))]
def dE:List (ah×Kd) :=
 [od 69 (.mv (tm 0)) .pure,
 od 70 (.mv (tm 1)) .pure,
 od 71 (.mv (tm 7)) .pure,
 od 72 (.bin .add (tm 70) (tm 71)) .pure,
 od 73 (.slV 1 (tm 69) (some (tm 72)) none none) (.read 0 0),
 od 74 (.mv (tm 0)) .pure,
 od 75 (.mv (tm 1)) .pure,
 od 76 (.slV 1 (tm 74) (some (tm 75)) none none) (.read 0 0)]
def du:List ah :=
 [⟨(some 77),(.copy 1 (tm 73) (tm 76)),none⟩]
def dD:List SOp :=
 [o1 78 (.mv (tm 0)),
 o1 79 (.mv (tm 1)),
 o1 80 (.slV 1 (tm 78) (some (tm 79)) none none),
 o1 81 (.mv (tm 2)),
 o1 82 (.copy 1 (tm 80) (tm 81))]
def dC:List SOp :=
 [o1 83 (.mv (tm 0)),
 o1 6 (.mv (tm 83))]
def dB:List SOp :=
 [o1 84 (.mv (tm 0)),
 o1 85 (.mv (tm 8)),
 o1 86 (.slV 1 (tm 84) (some (tm 85)) none none),
 o1 87 (.mv (tm 2)),
 o1 88 (.copy 1 (tm 86) (tm 87))]
def dA:List SOp :=
 [o1 89 (.mv (tm 0)),
 o1 90 (.mv (tm 1)),
 o1 91 (.slV 1 (tm 89) (some (tm 90)) none none),
 o1 92 (.mv (tm 7)),
 o1 93 (.call 109 [(tm 91),(tm 92)])]
def dz:List SOp :=
 [o1 94 (.mv (tm 0)),
 o1 6 (.mv (tm 94))]
def bj:aU:=⟨95,(.seq (.sreg dW [])
 (.seq (.sreg dV [false,false,false])
 (.seq (.sreg dU [true,false,false])
 (.seq (.seq (.sreg dT [true,false])
 (.cond (tm 16) (.seq (.sreg dS [true,false])
 .ret)
 .skip))
 (.seq (.sreg dR [true,false,false])
 (.seq (.seq (.sreg dQ [true,false,false])
 (.cond (tm 22) (.seq (.sreg dP [true,false,false,false])
 .ret)
 .skip))
 (.seq (.seq (.sreg dO [true,false,false,false,false,false])
 (.cond (tm 31) (.seq (.sreg dN [true,false,false,false,false,false,false,false,false,false])
 (.seq (.sreg dJ [false,false,false,false,false])
 (.seq (.dregM dI dv [false,false,false,false,false,false,false,false,false])
 (.seq (.sreg dH [true,false])
 .ret))))
 .skip))
 (.seq (.sreg dG [true,false,false,false,false,false])
 (.seq (.seq (.sreg dF [true,false,false,false,false,false,false,false])
 (.cond (tm 68) (.seq (.dregM dE du [false,false,false,false,false,false,false,false,false])
 (.seq (.sreg dD [false,false,false,false,false])
 (.seq (.sreg dC [true,false])
 .ret)))
 .skip))
 (.seq (.sreg dB [false,false,false,false,false])
 (.seq (.sreg dA [false,false,false,false,false])
 (.seq (.sreg dz [true,false])
 .ret)))))))))))),[(.tmp 6)]⟩
attribute [push_cast] dW dV dU dT dS dR dQ dP dO dN dJ dI dv dH dG dF dE du dD dC dB dA dz
theorem dL:aW Tryz.prog (fun r i=>if r=7∧i=2 then 2 else 1) 76=some bj.raw:=by kernel_rfl
def Wv:List SOp :=
 [o1 6 (.mv (.av (.sl [] 0 (some 0))))]
def Wu:List SOp :=
 [o1 8 (.mv (tm 0)),
 o1 9 (.mv (tm 1)),
 o1 10 (.mv (tm 2)),
 o1 11 (.mv (tm 0)),
 o1 12 (.len false (tm 11)),
 o1 13 (.slV 2 (tm 8) (some (tm 9)) (some (tm 10)) (some (tm 12)))]
def Wt:List SOp :=
 [o1 14 (.mv (tm 1)),
 o1 15 (.mv (tm 2)),
 o1 16 (.bin .eql (tm 14) (tm 15))]
def Ws:List SOp :=
 [o1 17 (.mv (tm 0)),
 o1 6 (.mv (tm 17))]
def Wr:List SOp :=
 [o1 18 (.mv (tm 0)),
 o1 19 (.len false (tm 18)),
 o1 7 (.mv (tm 19))]
def Wq:List (ah×Kd) :=
 [od 20 (.mv (tm 0)) .pure,
 od 21 (.mv (tm 1)) .pure,
 od 22 (.slV 2 (tm 20) none (some (tm 21)) none) (.read 0 0),
 od 23 (.mv (tm 0)) .pure,
 od 24 (.mv (tm 2)) .pure,
 od 25 (.slV 2 (tm 23) (some (tm 24)) none none) (.read 0 0)]
def Wp:List ah :=
 [⟨(some 26),(.app 4 2 40 [(.str []),(.sl [] 0 (some 0))] (tm 22) (tm 25)),none⟩,
 ⟨(some 0),(.mv (tm 26)),none⟩]
def Wo:List SOp :=
 [o1 27 (.mv (tm 0)),
 o1 28 (.mv (tm 0)),
 o1 29 (.len false (tm 28)),
 o1 30 (.mv (tm 7)),
 o1 31 (.slV 2 (tm 27) (some (tm 29)) (some (tm 30)) none),
 o0 (.clear 2 [(.str []),(.sl [] 0 (some 0))] (tm 31))]
def Wn:List SOp :=
 [o1 32 (.mv (tm 0)),
 o1 6 (.mv (tm 32))]
def aaT:aU:=⟨33,(.seq (.sreg Wv [])
 (.seq (.sreg Wu [false,false,false,false,false,false])
 (.seq (.seq (.sreg Wt [true,false,false])
 (.cond (tm 16) (.seq (.sreg Ws [true,false])
 .ret)
 .skip))
 (.seq (.sreg Wr [true,false,false])
 (.seq (.dregM Wq Wp [true,false,false,false,false,false,false,false])
 (.seq (.sreg Wo [false,false,false,false,false])
 (.seq (.sreg Wn [true,false])
 .ret))))))),[(.tmp 6)]⟩
attribute [push_cast] Wv Wu Wt Ws Wr Wq Wp Wo Wn
theorem aaS:aW Tryz.prog (fun r i=>if r=5∧i=6 then 4 else 1) 74=some aaT.raw:=by kernel_rfl
def Wm:List SOp :=
 [o1 6 (.mv (.av (.sl [] 0 (some 0))))]
def Wl:List SOp :=
 [o1 8 (.mv (tm 0)),
 o1 9 (.mv (tm 1)),
 o1 10 (.mv (tm 2)),
 o1 11 (.mv (tm 0)),
 o1 12 (.len false (tm 11)),
 o1 13 (.slV 1 (tm 8) (some (tm 9)) (some (tm 10)) (some (tm 12)))]
def Wk:List SOp :=
 [o1 14 (.mv (tm 1)),
 o1 15 (.mv (tm 2)),
 o1 16 (.bin .eql (tm 14) (tm 15))]
def Wj:List SOp :=
 [o1 17 (.mv (tm 0)),
 o1 6 (.mv (tm 17))]
def Wi:List SOp :=
 [o1 18 (.mv (tm 0)),
 o1 19 (.len false (tm 18)),
 o1 7 (.mv (tm 19))]
def Wh:List (ah×Kd) :=
 [od 20 (.mv (tm 0)) .pure,
 od 21 (.mv (tm 1)) .pure,
 od 22 (.slV 1 (tm 20) none (some (tm 21)) none) (.read 0 0),
 od 23 (.mv (tm 0)) .pure,
 od 24 (.mv (tm 2)) .pure,
 od 25 (.slV 1 (tm 23) (some (tm 24)) none none) (.read 0 0)]
def Wg:List ah :=
 [⟨(some 26),(.app 4 1 16 [(.str [])] (tm 22) (tm 25)),none⟩,
 ⟨(some 0),(.mv (tm 26)),none⟩]
def Wf:List SOp :=
 [o1 27 (.mv (tm 0)),
 o1 28 (.mv (tm 0)),
 o1 29 (.len false (tm 28)),
 o1 30 (.mv (tm 7)),
 o1 31 (.slV 1 (tm 27) (some (tm 29)) (some (tm 30)) none),
 o0 (.clear 1 [(.str [])] (tm 31))]
def We:List SOp :=
 [o1 32 (.mv (tm 0)),
 o1 6 (.mv (tm 32))]
def aaR:aU:=⟨33,(.seq (.sreg Wm [])
 (.seq (.sreg Wl [false,false,false,false,false,false])
 (.seq (.seq (.sreg Wk [true,false,false])
 (.cond (tm 16) (.seq (.sreg Wj [true,false])
 .ret)
 .skip))
 (.seq (.sreg Wi [true,false,false])
 (.seq (.dregM Wh Wg [true,false,false,false,false,false,false,false])
 (.seq (.sreg Wf [false,false,false,false,false])
 (.seq (.sreg We [true,false])
 .ret))))))),[(.tmp 6)]⟩
attribute [push_cast] Wm Wl Wk Wj Wi Wh Wg Wf We
theorem aaQ:aW Tryz.prog (fun r i=>if r=5∧i=6 then 4 else 1) 104=some aaR.raw:=by kernel_rfl
def Wz:List SOp :=
 [o1 2 (.mv (.av (.sl [] 0 (some 0))))]
def Wy:List SOp :=
 [o1 3 (.mv (tm 0)),
 o1 4 (.slnil false (tm 3))]
def Wx:List SOp :=
 [o1 2 (.mv (.av (.sl [] 0 (some 0))))]
def Ww:List SOp :=
 [o1 5 (.bslice false 1 0 [] []),
 o1 6 (.mv (tm 0)),
 o1 7 (.app 2 1 16 [(.str [])] (tm 5) (tm 6)),
 o1 2 (.mv (tm 7))]
def aaV:aU:=⟨8,(.seq (.sreg Wz [])
 (.seq (.seq (.sreg Wy [true,false])
 (.cond (tm 4) (.seq (.sreg Wx [])
 .ret)
 .skip))
 (.seq (.sreg Ww [true,false,false,false])
 .ret))),[(.tmp 2)]⟩
attribute [push_cast] Wz Wy Wx Ww
theorem aaU:aW Tryz.prog (fun r i=>if r=3∧i=2 then 2 else 1) 55=some aaV.raw:=by kernel_rfl
set_option maxHeartbeats 8000000
set_option maxRecDepth 100000
def KF (L:List Blk) (C:List AV) (n s:Nat) (v:AV):Prop:=(∃ cap,v=.sl C n cap)∨∃ i cp rest,v=.lsl i 0 n cp s∧L[i]?=some (.cells (C++rest))
def VJ (f:FuncId) (caps:List AV) (L:List Blk) (el:Nat→AV) (tg:AV) (n:Nat) (c:Nat→Int):Prop:=∀ (h:Nat) (K:AV→List Blk→Prop),h<n→K (.int .i64 (c h)) L→af Tryz.prog f ([el h,tg]++caps) L K
theorem Vy {f:FuncId} {caps C:List AV} {n m:Nat} {tg v:AV} {c:Nat→Int} {L:List Blk} (hn:n≤1000000) (hC:C.length=n * 2) (hm:m≤n) (hrow:KF L C n 2 v) (hf:VJ f caps L (fun h=>.agg ((C.drop (h * 2)).take 2)) tg n c) (hc:∀ h,h<n→(c h<0↔h<m))
   {K:AV→List Blk→Prop} (h:K (.tup [.int .i64 (m:Nat),.bool (decide (m<n) && decide (c m=0))]) L) :
   af Tryz.prog 83 [v,tg,.func f caps] L K:=by
 replace h:=hid h
 replace hf:=hid hf
 replace hc:=hid hc
 rcases hrow with ⟨cap,rfl⟩|⟨bi,cp,rest,rfl,hL⟩
 · refine ai bp (by simp [ay]) ?_
   simp only [ay,ar]
   refine wk ?_
   refine am (fun q T' L'=>∃ a b:Nat,q=b - a∧a≤m∧m≤b∧b≤n∧T'=[(10,.int .i64 (b:Int)),(9,.int .i64 (a:Int)),(8,.int .i64 (n:Nat)),(0,.sl C n cap),(1,tg),(2,.func f caps)]∧L=L') (CutS (b:=Nat.le_refl _)) ⟨0,n,rfl,Nat.zero_le _,hm,Nat.le_refl _,rfl,rfl⟩ ?_
   rintro _ _ L' ⟨a,b,rfl,ham,hmb,hb,rfl,e⟩
   subst e
   by_cases hlt:a<b
   · have g1:(a:Int)<(b:Int):=by omega
     obtain ⟨z,hz⟩:∃ z,z=(a+b) / 2:=⟨_,rfl⟩
     have g2:IntKind.i64.wrap ((a:Int)+b)=(a:Int)+b:=ab (by omega) (by omega)
     have g3:IntKind.u64.wrap ((a:Int)+b)=(a:Int)+b:=oE (by omega) (by omega)
     have g4:Int.fdiv ((a:Int)+b) (2 ^ (min 1 IntKind.u64.bits))=(z:Int):=by
       have:(2:Int) ^ (min 1 IntKind.u64.bits)=2:=by decide
       rw [this,Int.fdiv_eq_ediv_of_nonneg _ (by omega)];omega
     have g5:IntKind.i64.wrap (z:Int)=z:=ab (by omega) (by omega)
     have g6:IntKind.i64.wrap ((z:Int)+1)=(z:Int)+1:=ab (by omega) (by omega)
     have g8:a≤z∧z<b:=by omega
     have g9:(z:Int)<(n:Int):=by omega
     have hzn:z<n:=by omega
     have hcz:=hc.out z hzn
     have e2:z * 2+2≤C.length:=by omega
     replace g8:=hid g8
     replace hcz:=hid hcz
     replace hC:=hid hC
     clear hz
     refine wk ?_
     refine hf.out z _ hzn ?_
     refine sk ?_
     obtain ⟨w,hw⟩:∃ w,c z=w:=⟨_,rfl⟩
     rw [hw] at hcz
     simp only [hw]
     by_cases hneg:w<0
     · have hzm:=hcz.out.1 hneg
       clear hcz hw
       have hg8:=g8.out
       refine wk ?_
       exact aj _ _ _ (by omega) (CutL (b:=by simp)) ⟨z+1,b,rfl,hzm,hmb,hb,rfl,rfl⟩
     · have hzm:m≤z:=by
         rcases Nat.lt_or_ge z m with e|e
         · exact absurd (hcz.out.2 e) hneg
         · exact e
       clear hcz hw
       have hg8:=g8.out
       refine wk ?_
       exact aj _ _ _ (by omega) (CutL (b:=by simp)) ⟨a,z,rfl,ham,hzm,by omega,rfl,rfl⟩
   obtain rfl:a=m:=by omega
   obtain rfl:b=a:=by omega
   have g1:¬ (b:Int)<(b:Int):=by omega
   by_cases hbn:b<n
   · have g2:(b:Int)<(n:Int):=by omega
     have h':=h.out
     rw [decide_eq_true hbn,Bool.true_and] at h'
     obtain ⟨w,hw⟩:∃ w,c b=w:=⟨_,rfl⟩
     rw [hw] at h'
     replace h':=hid h'
     have e2:b * 2+2≤C.length:=by omega
     replace hC:=hid hC
     have kk1:Hid (∀ {K:AV→List Blk→Prop},K (.int .i64 w) L→af Tryz.prog f (AV.agg ((C.drop (b * 2)).take 2)::tg::caps) L K):=hid fun q=>hf.out b _ hbn (by rw [hw];exact q)
     refine wk ?_
     exact aa h'.out
   · have g2:¬ (b:Int)<(n:Int):=by omega
     have h':=h.out
     rw [decide_eq_false hbn,Bool.false_and] at h'
     replace h':=hid h'
     refine wk ?_
     exact aa h'.out
 · refine ai bp (by simp [ay]) ?_
   simp only [ay,ar]
   refine wk ?_
   refine am (fun q T' L'=>∃ a b:Nat,q=b - a∧a≤m∧m≤b∧b≤n∧T'=[(10,.int .i64 (b:Int)),(9,.int .i64 (a:Int)),(8,.int .i64 (n:Nat)),(0,.lsl bi 0 n cp 2),(1,tg),(2,.func f caps)]∧L=L') (CutS (b:=Nat.le_refl _)) ⟨0,n,rfl,Nat.zero_le _,hm,Nat.le_refl _,rfl,rfl⟩ ?_
   rintro _ _ L' ⟨a,b,rfl,ham,hmb,hb,rfl,e⟩
   subst e
   by_cases hlt:a<b
   · have g1:(a:Int)<(b:Int):=by omega
     obtain ⟨z,hz⟩:∃ z,z=(a+b) / 2:=⟨_,rfl⟩
     have g2:IntKind.i64.wrap ((a:Int)+b)=(a:Int)+b:=ab (by omega) (by omega)
     have g3:IntKind.u64.wrap ((a:Int)+b)=(a:Int)+b:=oE (by omega) (by omega)
     have g4:Int.fdiv ((a:Int)+b) (2 ^ (min 1 IntKind.u64.bits))=(z:Int):=by
       have:(2:Int) ^ (min 1 IntKind.u64.bits)=2:=by decide
       rw [this,Int.fdiv_eq_ediv_of_nonneg _ (by omega)];omega
     have g5:IntKind.i64.wrap (z:Int)=z:=ab (by omega) (by omega)
     have g6:IntKind.i64.wrap ((z:Int)+1)=(z:Int)+1:=ab (by omega) (by omega)
     have g8:a≤z∧z<b:=by omega
     have g9:(z:Int)<(n:Int):=by omega
     have hzn:z<n:=by omega
     have hcz:=hc.out z hzn
     have e1:((C++rest).drop (z * 2)).take 2=(C.drop (z * 2)).take 2:=by
       rw [List.drop_append_of_le_length (by omega),List.take_append_of_le_length (by simp;omega)]
     have e2:z * 2+2≤C.length+rest.length:=by omega
     replace g8:=hid g8
     replace hcz:=hid hcz
     replace hC:=hid hC
     clear hz
     refine wk ?_
     refine hf.out z _ hzn ?_
     refine sk ?_
     obtain ⟨w,hw⟩:∃ w,c z=w:=⟨_,rfl⟩
     rw [hw] at hcz
     simp only [hw]
     by_cases hneg:w<0
     · have hzm:=hcz.out.1 hneg
       clear hcz hw
       have hg8:=g8.out
       refine wk ?_
       exact aj _ _ _ (by omega) (CutL (b:=by simp)) ⟨z+1,b,rfl,hzm,hmb,hb,rfl,rfl⟩
     · have hzm:m≤z:=by
         rcases Nat.lt_or_ge z m with e|e
         · exact absurd (hcz.out.2 e) hneg
         · exact e
       clear hcz hw
       have hg8:=g8.out
       refine wk ?_
       exact aj _ _ _ (by omega) (CutL (b:=by simp)) ⟨a,z,rfl,ham,hzm,by omega,rfl,rfl⟩
   obtain rfl:a=m:=by omega
   obtain rfl:b=a:=by omega
   have g1:¬ (b:Int)<(b:Int):=by omega
   by_cases hbn:b<n
   · have g2:(b:Int)<(n:Int):=by omega
     have h':=h.out
     rw [decide_eq_true hbn,Bool.true_and] at h'
     obtain ⟨w,hw⟩:∃ w,c b=w:=⟨_,rfl⟩
     rw [hw] at h'
     replace h':=hid h'
     have e1:((C++rest).drop (b * 2)).take 2=(C.drop (b * 2)).take 2:=by
       rw [List.drop_append_of_le_length (by omega),List.take_append_of_le_length (by simp;omega)]
     have e2:b * 2+2≤C.length+rest.length:=by omega
     replace hC:=hid hC
     have kk1:Hid (∀ {K:AV→List Blk→Prop},K (.int .i64 w) L→af Tryz.prog f (AV.agg ((C.drop (b * 2)).take 2)::tg::caps) L K):=hid fun q=>hf.out b _ hbn (by rw [hw];exact q)
     refine wk ?_
     exact aa h'.out
   · have g2:¬ (b:Int)<(n:Int):=by omega
     have h':=h.out
     rw [decide_eq_false hbn,Bool.false_and] at h'
     replace h':=hid h'
     refine wk ?_
     exact aa h'.out
theorem Vx {f:FuncId} {caps C:List AV} {n m:Nat} {tg v:AV} {c:Nat→Int} {L:List Blk} (hn:n≤1000000) (hC:C.length=n * 1) (hm:m≤n) (hrow:KF L C n 1 v) (hf:VJ f caps L (fun h=>C.getD h .undef) tg n c) (hc:∀ h,h<n→(c h<0↔h<m))
   {K:AV→List Blk→Prop} (h:K (.tup [.int .i64 (m:Nat),.bool (decide (m<n) && decide (c m=0))]) L) :
   af Tryz.prog 88 [v,tg,.func f caps] L K:=by
 replace h:=hid h
 replace hf:=hid hf
 replace hc:=hid hc
 rcases hrow with ⟨cap,rfl⟩|⟨bi,cp,rest,rfl,hL⟩
 · refine ai bF (by simp [az]) ?_
   simp only [az,ar]
   refine wk ?_
   refine am (fun q T' L'=>∃ a b:Nat,q=b - a∧a≤m∧m≤b∧b≤n∧T'=[(10,.int .i64 (b:Int)),(9,.int .i64 (a:Int)),(8,.int .i64 (n:Nat)),(0,.sl C n cap),(1,tg),(2,.func f caps)]∧L=L') (CutS (b:=Nat.le_refl _)) ⟨0,n,rfl,Nat.zero_le _,hm,Nat.le_refl _,rfl,rfl⟩ ?_
   rintro _ _ L' ⟨a,b,rfl,ham,hmb,hb,rfl,e⟩
   subst e
   by_cases hlt:a<b
   · have g1:(a:Int)<(b:Int):=by omega
     obtain ⟨z,hz⟩:∃ z,z=(a+b) / 2:=⟨_,rfl⟩
     have g2:IntKind.i64.wrap ((a:Int)+b)=(a:Int)+b:=ab (by omega) (by omega)
     have g3:IntKind.u64.wrap ((a:Int)+b)=(a:Int)+b:=oE (by omega) (by omega)
     have g4:Int.fdiv ((a:Int)+b) (2 ^ (min 1 IntKind.u64.bits))=(z:Int):=by
       have:(2:Int) ^ (min 1 IntKind.u64.bits)=2:=by decide
       rw [this,Int.fdiv_eq_ediv_of_nonneg _ (by omega)];omega
     have g5:IntKind.i64.wrap (z:Int)=z:=ab (by omega) (by omega)
     have g6:IntKind.i64.wrap ((z:Int)+1)=(z:Int)+1:=ab (by omega) (by omega)
     have g8:a≤z∧z<b:=by omega
     have g9:(z:Int)<(n:Int):=by omega
     have hzn:z<n:=by omega
     have hcz:=hc.out z hzn
     have e2:z<C.length:=by omega
     replace g8:=hid g8
     replace hcz:=hid hcz
     replace hC:=hid hC
     clear hz
     refine wk ?_
     refine hf.out z _ hzn ?_
     refine sk ?_
     obtain ⟨w,hw⟩:∃ w,c z=w:=⟨_,rfl⟩
     rw [hw] at hcz
     simp only [hw]
     by_cases hneg:w<0
     · have hzm:=hcz.out.1 hneg
       clear hcz hw
       have hg8:=g8.out
       refine wk ?_
       exact aj _ _ _ (by omega) (CutL (b:=by simp)) ⟨z+1,b,rfl,hzm,hmb,hb,rfl,rfl⟩
     · have hzm:m≤z:=by
         rcases Nat.lt_or_ge z m with e|e
         · exact absurd (hcz.out.2 e) hneg
         · exact e
       clear hcz hw
       have hg8:=g8.out
       refine wk ?_
       exact aj _ _ _ (by omega) (CutL (b:=by simp)) ⟨a,z,rfl,ham,hzm,by omega,rfl,rfl⟩
   obtain rfl:a=m:=by omega
   obtain rfl:b=a:=by omega
   have g1:¬ (b:Int)<(b:Int):=by omega
   by_cases hbn:b<n
   · have g2:(b:Int)<(n:Int):=by omega
     have h':=h.out
     rw [decide_eq_true hbn,Bool.true_and] at h'
     obtain ⟨w,hw⟩:∃ w,c b=w:=⟨_,rfl⟩
     rw [hw] at h'
     replace h':=hid h'
     have e2:b<C.length:=by omega
     replace hC:=hid hC
     have kk1:Hid (∀ {K:AV→List Blk→Prop},K (.int .i64 w) L→af Tryz.prog f (C.getD b .undef::tg::caps) L K):=hid fun q=>hf.out b _ hbn (by rw [hw];exact q)
     refine wk ?_
     exact aa h'.out
   · have g2:¬ (b:Int)<(n:Int):=by omega
     have h':=h.out
     rw [decide_eq_false hbn,Bool.false_and] at h'
     replace h':=hid h'
     refine wk ?_
     exact aa h'.out
 · refine ai bF (by simp [az]) ?_
   simp only [az,ar]
   refine wk ?_
   refine am (fun q T' L'=>∃ a b:Nat,q=b - a∧a≤m∧m≤b∧b≤n∧T'=[(10,.int .i64 (b:Int)),(9,.int .i64 (a:Int)),(8,.int .i64 (n:Nat)),(0,.lsl bi 0 n cp 1),(1,tg),(2,.func f caps)]∧L=L') (CutS (b:=Nat.le_refl _)) ⟨0,n,rfl,Nat.zero_le _,hm,Nat.le_refl _,rfl,rfl⟩ ?_
   rintro _ _ L' ⟨a,b,rfl,ham,hmb,hb,rfl,e⟩
   subst e
   by_cases hlt:a<b
   · have g1:(a:Int)<(b:Int):=by omega
     obtain ⟨z,hz⟩:∃ z,z=(a+b) / 2:=⟨_,rfl⟩
     have g2:IntKind.i64.wrap ((a:Int)+b)=(a:Int)+b:=ab (by omega) (by omega)
     have g3:IntKind.u64.wrap ((a:Int)+b)=(a:Int)+b:=oE (by omega) (by omega)
     have g4:Int.fdiv ((a:Int)+b) (2 ^ (min 1 IntKind.u64.bits))=(z:Int):=by
       have:(2:Int) ^ (min 1 IntKind.u64.bits)=2:=by decide
       rw [this,Int.fdiv_eq_ediv_of_nonneg _ (by omega)];omega
     have g5:IntKind.i64.wrap (z:Int)=z:=ab (by omega) (by omega)
     have g6:IntKind.i64.wrap ((z:Int)+1)=(z:Int)+1:=ab (by omega) (by omega)
     have g8:a≤z∧z<b:=by omega
     have g9:(z:Int)<(n:Int):=by omega
     have hzn:z<n:=by omega
     have hcz:=hc.out z hzn
     have e1:(C++rest).getD z .undef=C.getD z .undef:=by
       rw [List.getD_eq_getElem?_getD,List.getElem?_append_left (by omega)];rfl
     have e2:z<C.length+rest.length:=by omega
     replace g8:=hid g8
     replace hcz:=hid hcz
     replace hC:=hid hC
     clear hz
     refine wk ?_
     refine hf.out z _ hzn ?_
     refine sk ?_
     obtain ⟨w,hw⟩:∃ w,c z=w:=⟨_,rfl⟩
     rw [hw] at hcz
     simp only [hw]
     by_cases hneg:w<0
     · have hzm:=hcz.out.1 hneg
       clear hcz hw
       have hg8:=g8.out
       refine wk ?_
       exact aj _ _ _ (by omega) (CutL (b:=by simp)) ⟨z+1,b,rfl,hzm,hmb,hb,rfl,rfl⟩
     · have hzm:m≤z:=by
         rcases Nat.lt_or_ge z m with e|e
         · exact absurd (hcz.out.2 e) hneg
         · exact e
       clear hcz hw
       have hg8:=g8.out
       refine wk ?_
       exact aj _ _ _ (by omega) (CutL (b:=by simp)) ⟨a,z,rfl,ham,hzm,by omega,rfl,rfl⟩
   obtain rfl:a=m:=by omega
   obtain rfl:b=a:=by omega
   have g1:¬ (b:Int)<(b:Int):=by omega
   by_cases hbn:b<n
   · have g2:(b:Int)<(n:Int):=by omega
     have h':=h.out
     rw [decide_eq_true hbn,Bool.true_and] at h'
     obtain ⟨w,hw⟩:∃ w,c b=w:=⟨_,rfl⟩
     rw [hw] at h'
     replace h':=hid h'
     have e1:(C++rest).getD b .undef=C.getD b .undef:=by
       rw [List.getD_eq_getElem?_getD,List.getElem?_append_left (by omega)];rfl
     have e2:b<C.length+rest.length:=by omega
     replace hC:=hid hC
     have kk1:Hid (∀ {K:AV→List Blk→Prop},K (.int .i64 w) L→af Tryz.prog f (C.getD b .undef::tg::caps) L K):=hid fun q=>hf.out b _ hbn (by rw [hw];exact q)
     refine wk ?_
     exact aa h'.out
   · have g2:¬ (b:Int)<(n:Int):=by omega
     have h':=h.out
     rw [decide_eq_false hbn,Bool.false_and] at h'
     replace h':=hid h'
     refine wk ?_
     exact aa h'.out
set_option maxHeartbeats 8000000
set_option maxRecDepth 100000
theorem iY {L:List Blk} {i n:Nat} (h:∀ k∈L,k.refs (fun i=>decide (i<n))=true):∀ k∈L.set i .dead,k.refs (fun i=>decide (i<n))=true:=fun k hk=>by
 rcases List.mem_or_eq_of_mem_set hk with h1|h1
 · exact h k h1
 · subst h1;rfl
theorem JE {L0 L:List Blk} {i off n s:Nat} {cp:Option Nat} {Q:AV→List Blk→Prop} (h:Fin L0 (.lsl i off n none s) L Q):Fin L0 (.lsl i off n cp s) L Q:=fun w0 S0 E0 E w v h0 hn hw hR hv=>by
 refine h w0 S0 E0 E w v h0 hn hw hR ?_
 simp only [VR] at hv ⊢
 obtain ⟨c,rc,d,h1,h2,h3,h4,_,h6⟩:=hv
 exact ⟨c,rc,d,h1,h2,h3,h4,by simp,h6⟩
theorem CX (z:List AV):∀ n,(ce z n).length=n * z.length
 | 0=>by simp [ce]
 | n+1=>by rw [ce,List.length_append,CX z n,Nat.succ_mul];omega
theorem Ga {L:List Blk} (h:∀ k∈L,k.refs (fun i=>decide (i<L.length))=true) {i:Nat} {c:List AV} (hL:L[i]?=some (.cells c)):∀ a∈c,a.refs (fun i=>decide (i<L.length))=true :=
 AV.refsL_iff.1 (h _ (List.mem_of_getElem? hL))
theorem aaP {cap:Option Nat} {L:List Blk} {K:AV→List Blk→Prop} (h:K (.sl [] 0 (some 0)) L):af Tryz.prog 55 [.sl [] 0 cap] L K:=by
 refine ai aaU (by simp [aaV]) ?_
 simp only [aaV,ar]
 repeat' first
   | refine a8 ?_
   | (first|refine aM (by kernel_rfl) ?_|refine aA (by kernel_rfl) ?_|refine aB ?_|refine bV ?_|refine bc (fun _=>?_)|refine au ?_|refine aT ?_)
     refine sm ?_
   | (first|refine aP (by kernel_rfl) ?_|refine aN ?_|refine aO ?_|refine ba (ax ?_))
     refine sl ?_
   | exact bd
   | first|apply be|apply aQ|apply bf|apply aR|apply bg|apply aS
   | refine aC ?_
   | first|refine aD rfl ?_|refine aE rfl ?_|refine ao rfl ?_ ?_|refine aH rfl (fun _=>?_) (fun _=>?_)|refine aG rfl (fun _=>?_) (fun _=>?_)
   | ((first|refine an (fun _=>?_) (fun _=>?_)|refine aw (fun _=>?_) (fun _=>?_))<;>try refine sm ?_)
   | refine And.intro trivial ?_
   | refine And.intro (by omega) ?_
   | refine aI rfl (fun _=>?_) (fun _=>?_)
   | refine And.intro ?_ ?_
 all_goals (first|refine ad rfl (Kto h ?_)|refine aa (Kto h ?_)|refine ad (by simp only [AV.refs,AV.refsL, *];rfl) (Kto h ?_)|refine bB (ad rfl (Kto h ?_))|(trace_state;fail))
 all_goals (first|(simp [*];done)|(simp [*];omega)|(simp [*];intros;omega)|(simp_all [Hid,Hid];done)|(simp_all [Hid,Hid];omega))
theorem xu (p:Nat→Bool) (xs:List (List UInt8)):AV.refsL p (xs.map AV.str)=true:=AV.refsL_iff.2 fun a ha=>by
 obtain ⟨x,_,rfl⟩:=List.mem_map.1 ha
 rfl
theorem IE (xs:List (List UInt8)):(xs.map AV.str).all AV.one=true:=by
 rw [List.all_eq_true]
 intro a ha
 obtain ⟨x,_,rfl⟩:=List.mem_map.1 ha
 rfl
theorem aaO {xs:List (List UInt8)} {cap:Option Nat} {L:List Blk} {K:AV→List Blk→Prop} (h0:xs.length≠0) (hn:xs.length≤1000000) (h:K (.lsl L.length 0 xs.length none 1) (L++[.cells (xs.map AV.str)])) :
   af Tryz.prog 55 [.sl (xs.map AV.str) xs.length cap] L K:=by
 have h1:=IE xs
 refine ai aaU (by simp [aaV]) ?_
 simp only [aaV,ar]
 repeat' first
   | refine a8 ?_
   | (first|refine aM (by kernel_rfl) ?_|refine aA (by kernel_rfl) ?_|refine aB ?_|refine bV ?_|refine bc (fun _=>?_)|refine au ?_|refine aT ?_)
     refine sm ?_
   | (first|refine aP (by kernel_rfl) ?_|refine aN ?_|refine aO ?_|refine ba (ax ?_))
     refine sl ?_
   | exact bd
   | first|apply be|apply aQ|apply bf|apply aR|apply bg|apply aS
   | refine aC ?_
   | first|refine aD rfl ?_|refine aE rfl ?_|refine ao rfl ?_ ?_|refine aH rfl (fun _=>?_) (fun _=>?_)|refine aG rfl (fun _=>?_) (fun _=>?_)
   | ((first|refine an (fun _=>?_) (fun _=>?_)|refine aw (fun _=>?_) (fun _=>?_))<;>try refine sm ?_)
   | refine And.intro trivial ?_
   | refine And.intro (by omega) ?_
   | refine aI rfl (fun _=>?_) (fun _=>?_)
   | refine And.intro ?_ ?_
 refine Lg L.length (.cells (xs.map AV.str)) rfl (Nat.le_refl _) (by simp) (by simp [AV.refs]) (xu _ _) ?_
 simpa [AV.ren] using h
theorem SW {l:List AV} {n:Nat} {cap:Option Nat} {i off m s:Nat} {cp:Option Nat} {l2:List AV} {L:List Blk} {K:AV→List Blk→Prop} (hl:n=0∨l≠[]) (hL:L[i]?=some (.cells l2)) (hpos:0<s) (h:K (.bool false) L) :
   af Tryz.prog 108 [.sl l n cap,.lsl i off m cp s] L K :=
 FB (fn:=Tryz.f108) (tS:=54) (tR:=4) (e:=9) (sz:=1) (by kernel_rfl) (by kernel_rfl) (by kernel_rfl) (by kernel_rfl) (by kernel_rfl) (by kernel_rfl) (by kernel_rfl) hl hL hpos h
theorem S9 {x:List UInt8} {cap:Option Nat} {L:List Blk} {K:AV→List Blk→Prop}  (h:K (.lsl L.length 0 1 none 1) (L++[.cells [.str x]])) :
   af Tryz.prog 76 [.sl [] 0 (some 0),.int .i64 0,.sl [.str x] 1 cap] L K:=by
 replace h:=hid h
 refine ai dL (by simp [bj]) ?_
 simp only [bj,ar]
 repeat' first
   | refine a8 ?_
   | (first|refine aM (by kernel_rfl) ?_|refine aA (by kernel_rfl) ?_|refine aB ?_|refine bV ?_|refine bc (fun _=>?_)|refine au ?_|refine aT ?_)
     refine sm ?_
   | (first|refine aP (by kernel_rfl) ?_|refine aN ?_|refine aO ?_|refine ba (ax ?_))
     refine sl ?_
   | exact bd
   | first|apply be|apply aQ|apply bf|apply aR|apply bg|apply aS
   | refine aC ?_
   | first|refine aD rfl ?_|refine aE rfl ?_|refine ao rfl ?_ ?_|refine aH rfl (fun _=>?_) (fun _=>?_)|refine aG rfl (fun _=>?_) (fun _=>?_)
   | ((first|refine an (fun _=>?_) (fun _=>?_)|refine aw (fun _=>?_) (fun _=>?_))<;>try refine sm ?_)
   | refine And.intro trivial ?_
   | refine And.intro (by omega) ?_
   | refine aI rfl (fun _=>?_) (fun _=>?_)
   | refine And.intro ?_ ?_
 exact Lg L.length (.cells [.str x]) rfl (Nat.le_refl _) (by simp) (by simp [AV.refs]) (by simp [Blk.refs,AV.refsL,AV.refs, *]) (by simpa [AV.ren] using h.out)
theorem Uu {C:List AV} {n k:Nat} {x:List UInt8} {i:Nat} {rest:List AV} {cap:Option Nat} {L:List Blk} {K:AV→List Blk→Prop}  (hn:n≤1000000) (hk:k≤n) (hC:C.length=n) (hone:C.all AV.one=true) (hL:L[i]?=some (.cells (C++rest)))
   (h:∀ rest,K (.lsl L.length 0 (n+1) none 1) (L.set i .dead++[.cells (C.take (k) ++ .str x::C.drop (k)++rest)])) :
   af Tryz.prog 76 [.lsl i 0 n none 1,.int .i64 k,.sl [.str x] 1 cap] L K:=by
 have hi:i<L.length:=(List.getElem?_eq_some_iff.1 hL).1
 have hset:∀ c,(L.set i c)[i]?=some c:=fun c=>by simp [hi]
 have hone':=List.all_eq_true.1 hone
 have ho1:∀ j,(C.drop j).all AV.one=true:=fun j=>List.all_eq_true.2 fun a ha=>hone' a (List.mem_of_mem_drop ha)
 have ho2:∀ j,(C.take j).all AV.one=true:=fun j=>List.all_eq_true.2 fun a ha=>hone' a (List.mem_of_mem_take ha)
 replace h:=hid h
 replace hone':=hid hone'
 refine ai dL (by simp [bj]) ?_
 simp only [bj,ar]
 refine Lj fun hrefs=>?_
 have hcr:=Ga hrefs hL
 have hcc:∀ a∈C,a.refs (fun i=>decide (i<L.length))=true:=fun a ha=>hcr a (by simp [ha])
 have hcr2:∀ a∈rest,a.refs (fun i=>decide (i<L.length))=true:=fun a ha=>hcr a (by simp [ha])
 replace hcc:=hid hcc
 replace hcr2:=hid hcr2
 clear hrefs hcr
 refine QC 0 rfl fun cp hcp=>?_
 by_cases hke:k=n
 · subst hke
   have g2:List.take (k) (C++rest)=C:=by rw [List.take_append_of_le_length (by omega),List.take_of_length_le (by omega)]
   have hfin:=h.out []
   rw [List.append_nil,List.take_of_length_le (by omega),List.drop_eq_nil_of_le (by omega)] at hfin
   replace hfin:=hid hfin
   have hlen:k≤C.length+rest.length:=by omega
   replace hC:=hid hC
   repeat' first
     | refine a8 ?_
     | (first|refine aM (by kernel_rfl) ?_|refine aA (by kernel_rfl) ?_|refine aB ?_|refine bV ?_|refine bc (fun _=>?_)|refine au ?_|refine aT ?_)
       refine sm ?_
     | (first|refine aP (by kernel_rfl) ?_|refine aN ?_|refine aO ?_|refine ba (ax ?_))
       refine sl ?_
     | exact bd
     | first|apply be|apply aQ|apply bf|apply aR|apply bg|apply aS
     | refine aC ?_
     | first|refine aD rfl ?_|refine aE rfl ?_|refine ao rfl ?_ ?_|refine aH rfl (fun _=>?_) (fun _=>?_)|refine aG rfl (fun _=>?_) (fun _=>?_)
     | ((first|refine an (fun _=>?_) (fun _=>?_)|refine aw (fun _=>?_) (fun _=>?_))<;>try refine sm ?_)
     | refine And.intro trivial ?_
     | refine And.intro (by omega) ?_
     | refine aI rfl (fun _=>?_) (fun _=>?_)
     | refine And.intro ?_ ?_
   exact oC (L1:=L.set i .dead) L.length (.cells (C++[.str x])) rfl (by simp) iY (Nat.le_refl _) (by simp) (by simp [AV.refs]) (AV.refsL_iff.2 fun a ha=>by
     simp only [List.mem_append,List.mem_cons,List.not_mem_nil,or_false] at ha
     rcases ha with ha|rfl
     · exact hcc.out a ha
     · rfl) (by simpa [AV.ren] using hfin.out)
 have g1:¬ (k:Int)=(n:Int):=by omega
 have g2:IntKind.i64.wrap ((n:Int)+1)=(n:Int)+1:=ab (by omega) (by omega)
 have g3:IntKind.i64.wrap ((k:Int)+1)=(k:Int)+1:=ab (by omega) (by omega)
 have g4:IntKind.i64.wrap ((n:Int)+1 - (k:Int))=(n:Int)+1 - (k:Int):=ab (by omega) (by omega)
 have g5:((n:Int)+1).toNat=n+1:=by omega
 have g6:((k:Int)+1).toNat=k+1:=by omega
 have g7:((n:Int)+1 - (k:Int)).toNat=n+1 - k:=by omega
 by_cases hroom:n+1≤cp
 · have g8:¬ (cp:Int)<(n:Int)+1:=by omega
   refine QB 0 rfl hL (by omega) ?_
   simp only [Nat.zero_add,Nat.mul_one]
   obtain ⟨R,hR⟩:∃ R,R=rest++List.replicate (cp - (C++rest).length) AV.undef:=⟨_,rfl⟩
   rw [List.append_assoc,← hR]
   have hRl:cp≤n+R.length:=by rw [hR];simp;omega
   have hRr:∀ a∈R,a.refs (fun i=>decide (i<L.length))=true:=fun a ha=>by
     rw [hR,List.mem_append] at ha
     rcases ha with h|h
     · exact hcr2.out a h
     · obtain ⟨_,rfl⟩:=List.mem_replicate.1 h;rfl
   replace hRr:=hid hRr
   clear hR
   have gm:min (n+1 - k) (n+1 - (k+1))=n - k:=by omega
   have gm2:min 1 (n+1 - k)=1:=by omega
   have hA:List.take ((n - k)) (List.take ((n+1 - k)) (List.drop (k) (C++R)))=C.drop (k):=by
     rw [List.take_take,List.drop_append_of_le_length (by omega),List.take_append_of_le_length (by simp;omega),List.take_of_length_le (by simp;omega)]
   have hB:∀ Z,List.take (k) (List.take ((k+1)) (C++R)++Z)=C.take (k):=fun Z=>by
     rw [List.take_append_of_le_length (by simp;omega),List.take_take,Nat.min_eq_left (by omega),List.take_append_of_le_length (by omega)]
   have hC1:∀ Z,List.drop ((k+1)) (List.take ((k+1)) (C++R)++Z)=Z:=fun Z=>by
     have:(List.take ((k+1)) (C++R)).length=(k+1):=by simp;omega
     rw [List.drop_append_of_le_length (by omega),List.drop_of_length_le (by omega)];simp
   have hfin:=h.out (List.drop ((k+1)+(n - k)) (C++R))
   have hrf:∀ a∈C.take (k) ++ .str x::(C.drop (k)++List.drop ((k+1)+(n - k)) (C++R)),a.refs (fun i=>decide (i<L.length))=true:=fun a ha=>by
     simp only [List.mem_append,List.mem_cons] at ha
     rcases ha with ha|rfl|ha|ha
     · exact hcc.out a (List.mem_of_mem_take ha)
     · rfl
     · exact hcc.out a (List.mem_of_mem_drop ha)
     · have:=List.mem_of_mem_drop ha
       rcases List.mem_append.1 this with h1|h1
       · exact hcc.out a h1
       · exact hRr.out a h1
   replace hrf:=hid hrf
   rw [List.append_assoc,List.cons_append] at hfin
   replace hfin:=hid hfin
   repeat' first
     | refine a8 ?_
     | (first|refine aM (by kernel_rfl) ?_|refine aA (by kernel_rfl) ?_|refine aB ?_|refine bV ?_|refine bc (fun _=>?_)|refine au ?_|refine aT ?_|refine SW (.inr (by simp)) (hset _) (by omega) ?_)
       simp (config:={ maxSteps:=2000000 }) only [List.set_set,List.length_take,List.length_drop,Kon,push_cast,reduceIte,Nat.reduceEqDiff,Nat.reduceAdd,Nat.reduceMul,Nat.reduceSub,Nat.reduceLT,Nat.reduceLeDiff,Int.reduceLT,Int.reduceLE,Int.reduceAdd,Int.reduceSub,Int.reduceNeg,Int.reduceToNat,Int.reduceEq,reduceCtorEq, *]
     | (first|refine aP (by kernel_rfl) ?_|refine aN ?_|refine aO ?_|refine ba (ax ?_))
       refine sl ?_
     | exact bd
     | first|apply be|apply aQ|apply bf|apply aR|apply bg|apply aS
     | refine aC ?_
     | first|refine aD rfl ?_|refine aE rfl ?_|refine ao rfl ?_ ?_|refine aH rfl (fun _=>?_) (fun _=>?_)|refine aG rfl (fun _=>?_) (fun _=>?_)
     | ((first|refine an (fun _=>?_) (fun _=>?_)|refine aw (fun _=>?_) (fun _=>?_))<;>try simp (config:={ maxSteps:=2000000 }) only [List.set_set,List.length_take,List.length_drop,Kon,push_cast,reduceIte,Nat.reduceEqDiff,Nat.reduceAdd,Nat.reduceMul,Nat.reduceSub,Nat.reduceLT,Nat.reduceLeDiff,Int.reduceLT,Int.reduceLE,Int.reduceAdd,Int.reduceSub,Int.reduceNeg,Int.reduceToNat,Int.reduceEq,reduceCtorEq, *])
     | refine And.intro trivial ?_
     | refine And.intro (by omega) ?_
     | refine aI rfl (fun _=>?_) (fun _=>?_)
     | refine And.intro ?_ ?_
   refine JE (Qv (hset _) ?_)
   rw [List.set_set]
   refine oC (L1:=L.set i .dead) (L.set i .dead).length (.cells (C.take (k) ++ .str x::(C.drop (k)++List.drop ((k+1)+(n - k)) (C++R)))) rfl (by simp) iY (by simp) (by simp) (by simp [AV.refs]) (AV.refsL_iff.2 hrf.out) ?_
   simpa [AV.ren] using hfin.out
 · have g8:(cp:Int)<(n:Int)+1:=by omega
   have g9:k+(n+1 - k)=n+1:=by omega
   have g10:((k:Int)+((n+1 - k:Nat):Int)).toNat - k=n+1 - k:=by omega
   have gm2:min 1 (n+1 - k)=1:=by omega
   have gm3:min (n - k) (n+1 - (k+1))=n - k:=by omega
   obtain ⟨ZZ,hZZ⟩:∃ ZZ,ce [.str []] (n+1 - k)=ZZ:=⟨_,rfl⟩
   have hZl:ZZ.length=(n+1 - k):=by rw [← hZZ,CX];simp
   have hLX:∀ X:List Blk,(L++X)[i]?=some (.cells (C++rest)):=fun X=>by rw [List.getElem?_append_left hi];exact hL
   have hT:∀ Z,List.take (k) (List.take (k) (C++rest)++Z)=C.take (k):=fun Z=>by
     rw [List.take_append_of_le_length (by simp;omega),List.take_take,Nat.min_self,List.take_append_of_le_length (by omega)]
   have hT2:∀ Z,List.take ((k+1)) (C.take (k) ++ .str x::Z)=C.take (k)++[.str x]:=fun Z=>by
     have:(C.take (k)).length=k:=by simp;omega
     rw [show C.take (k) ++ .str x::Z=(C.take (k)++[.str x])++Z by simp,List.take_append_of_le_length (by simp;omega),List.take_of_length_le (by simp;omega)]
   have hA:List.take ((n - k)) (List.take ((n - k)) (List.drop (k) (C++rest)))=C.drop (k):=by
     rw [List.take_take,Nat.min_self,List.drop_append_of_le_length (by omega),List.take_append_of_le_length (by simp;omega),List.take_of_length_le (by simp;omega)]
   have hD2:List.drop ((k+1)+(n - k)) (C.take (k) ++ .str x::List.drop ((k+1)) (List.take (k) (C++rest)++ZZ))=[]:=List.drop_eq_nil_of_le (by simp;omega)
   have hfin:=h.out []
   rw [List.append_nil] at hfin
   have hrf:∀ a∈C.take (k) ++ .str x::C.drop (k),a.refs (fun i=>decide (i<L.length))=true:=fun a ha=>by
     simp only [List.mem_append,List.mem_cons] at ha
     rcases ha with ha|rfl|ha
     · exact hcc.out a (List.mem_of_mem_take ha)
     · rfl
     · exact hcc.out a (List.mem_of_mem_drop ha)
   replace hrf:=hid hrf
   replace hfin:=hid hfin
   repeat' first
     | refine a8 ?_
     | (first|refine aM (by kernel_rfl) ?_|refine aA (by kernel_rfl) ?_|refine aB ?_|refine bV ?_|refine bc (fun _=>?_)|refine au ?_|refine aT ?_)
       simp (config:={ maxSteps:=2000000 }) only [List.set_set,List.length_take,List.length_drop,Kon,push_cast,reduceIte,Nat.reduceEqDiff,Nat.reduceAdd,Nat.reduceMul,Nat.reduceSub,Nat.reduceLT,Nat.reduceLeDiff,Int.reduceLT,Int.reduceLE,Int.reduceAdd,Int.reduceSub,Int.reduceNeg,Int.reduceToNat,Int.reduceEq,reduceCtorEq, *]
     | (first|refine aP (by kernel_rfl) ?_|refine aN ?_|refine aO ?_|refine ba (ax ?_))
       refine sl ?_
     | exact bd
     | first|apply be|apply aQ|apply bf|apply aR|apply bg|apply aS
     | refine aC ?_
     | first|refine aD rfl ?_|refine aE rfl ?_|refine ao rfl ?_ ?_|refine aH rfl (fun _=>?_) (fun _=>?_)|refine aG rfl (fun _=>?_) (fun _=>?_)
     | ((first|refine an (fun _=>?_) (fun _=>?_)|refine aw (fun _=>?_) (fun _=>?_))<;>try simp (config:={ maxSteps:=2000000 }) only [List.set_set,List.length_take,List.length_drop,Kon,push_cast,reduceIte,Nat.reduceEqDiff,Nat.reduceAdd,Nat.reduceMul,Nat.reduceSub,Nat.reduceLT,Nat.reduceLeDiff,Int.reduceLT,Int.reduceLE,Int.reduceAdd,Int.reduceSub,Int.reduceNeg,Int.reduceToNat,Int.reduceEq,reduceCtorEq, *])
     | refine And.intro trivial ?_
     | refine And.intro (by omega) ?_
     | refine aI rfl (fun _=>?_) (fun _=>?_)
     | refine And.intro ?_ ?_
   refine JD i ?_
   rw [List.set_append_left _ _ hi]
   refine oC (L1:=L.set i .dead) L.length (.cells (C.take (k) ++ .str x::C.drop (k))) rfl (by simp) iY (by simp) (by simp) (by simp [AV.refs]) (AV.refsL_iff.2 hrf.out) ?_
   simpa [AV.ren] using hfin.out
theorem SX {l:List AV} {n:Nat} {cap:Option Nat} {i off m s:Nat} {cp:Option Nat} {l2:List AV} {L:List Blk} {K:AV→List Blk→Prop} (hl:n=0∨l≠[]) (hL:L[i]?=some (.cells l2)) (hpos:0<s) (h:K (.bool false) L) :
   af Tryz.prog 110 [.sl l n cap,.lsl i off m cp s] L K :=
 FB (fn:=Tryz.f110) (tS:=22) (tR:=4) (e:=60) (sz:=2) (by kernel_rfl) (by kernel_rfl) (by kernel_rfl) (by kernel_rfl) (by kernel_rfl) (by kernel_rfl) (by kernel_rfl) hl hL hpos h
theorem Ta {y:List UInt8} {q z:Nat} {cap:Option Nat} {L:List Blk} {K:AV→List Blk→Prop} (hq:q<L.length) (h:K (.lsl L.length 0 1 none 2) (L++[.cells [.str y,.lsl q 0 z none 1]])) :
   af Tryz.prog 77 [.sl [] 0 (some 0),.int .i64 0,.sl [.str y,.lsl q 0 z none 1] 1 cap] L K:=by
 replace h:=hid h
 refine ai cU (by simp [aY]) ?_
 simp only [aY,ar]
 repeat' first
   | refine a8 ?_
   | (first|refine aM (by kernel_rfl) ?_|refine aA (by kernel_rfl) ?_|refine aB ?_|refine bV ?_|refine bc (fun _=>?_)|refine au ?_|refine aT ?_)
     refine sm ?_
   | (first|refine aP (by kernel_rfl) ?_|refine aN ?_|refine aO ?_|refine ba (ax ?_))
     refine sl ?_
   | exact bd
   | first|apply be|apply aQ|apply bf|apply aR|apply bg|apply aS
   | refine aC ?_
   | first|refine aD rfl ?_|refine aE rfl ?_|refine ao rfl ?_ ?_|refine aH rfl (fun _=>?_) (fun _=>?_)|refine aG rfl (fun _=>?_) (fun _=>?_)
   | ((first|refine an (fun _=>?_) (fun _=>?_)|refine aw (fun _=>?_) (fun _=>?_))<;>try refine sm ?_)
   | refine And.intro trivial ?_
   | refine And.intro (by omega) ?_
   | refine aI rfl (fun _=>?_) (fun _=>?_)
   | refine And.intro ?_ ?_
 exact Lg L.length (.cells [.str y,.lsl q 0 z none 1]) rfl (Nat.le_refl _) (by simp) (by simp [AV.refs]) (by simp [Blk.refs,AV.refsL,AV.refs, *]) (by simpa [AV.ren] using h.out)
theorem Uw {C:List AV} {n k:Nat} {y:List UInt8} {q z:Nat} {i:Nat} {rest:List AV} {cap:Option Nat} {L:List Blk} {K:AV→List Blk→Prop} (hq:q<L.length) (hn:n≤1000000) (hk:k≤n) (hC:C.length=n * 2) (hone:C.all AV.one=true) (hL:L[i]?=some (.cells (C++rest)))
   (h:∀ rest,K (.lsl L.length 0 (n+1) none 2) (L.set i .dead++[.cells (C.take (k * 2) ++ .str y :: .lsl q 0 z none 1::C.drop (k * 2)++rest)])) :
   af Tryz.prog 77 [.lsl i 0 n none 2,.int .i64 k,.sl [.str y,.lsl q 0 z none 1] 1 cap] L K:=by
 have hi:i<L.length:=(List.getElem?_eq_some_iff.1 hL).1
 have hset:∀ c,(L.set i c)[i]?=some c:=fun c=>by simp [hi]
 have hone':=List.all_eq_true.1 hone
 have ho1:∀ j,(C.drop j).all AV.one=true:=fun j=>List.all_eq_true.2 fun a ha=>hone' a (List.mem_of_mem_drop ha)
 have ho2:∀ j,(C.take j).all AV.one=true:=fun j=>List.all_eq_true.2 fun a ha=>hone' a (List.mem_of_mem_take ha)
 replace h:=hid h
 replace hone':=hid hone'
 refine ai cU (by simp [aY]) ?_
 simp only [aY,ar]
 refine Lj fun hrefs=>?_
 have hcr:=Ga hrefs hL
 have hcc:∀ a∈C,a.refs (fun i=>decide (i<L.length))=true:=fun a ha=>hcr a (by simp [ha])
 have hcr2:∀ a∈rest,a.refs (fun i=>decide (i<L.length))=true:=fun a ha=>hcr a (by simp [ha])
 replace hcc:=hid hcc
 replace hcr2:=hid hcr2
 clear hrefs hcr
 refine QC 0 rfl fun cp hcp=>?_
 by_cases hke:k=n
 · subst hke
   have g2:List.take (k * 2) (C++rest)=C:=by rw [List.take_append_of_le_length (by omega),List.take_of_length_le (by omega)]
   have hfin:=h.out []
   rw [List.append_nil,List.take_of_length_le (by omega),List.drop_eq_nil_of_le (by omega)] at hfin
   replace hfin:=hid hfin
   have hlen:k * 2≤C.length+rest.length:=by omega
   replace hC:=hid hC
   repeat' first
     | refine a8 ?_
     | (first|refine aM (by kernel_rfl) ?_|refine aA (by kernel_rfl) ?_|refine aB ?_|refine bV ?_|refine bc (fun _=>?_)|refine au ?_|refine aT ?_)
       refine sm ?_
     | (first|refine aP (by kernel_rfl) ?_|refine aN ?_|refine aO ?_|refine ba (ax ?_))
       refine sl ?_
     | exact bd
     | first|apply be|apply aQ|apply bf|apply aR|apply bg|apply aS
     | refine aC ?_
     | first|refine aD rfl ?_|refine aE rfl ?_|refine ao rfl ?_ ?_|refine aH rfl (fun _=>?_) (fun _=>?_)|refine aG rfl (fun _=>?_) (fun _=>?_)
     | ((first|refine an (fun _=>?_) (fun _=>?_)|refine aw (fun _=>?_) (fun _=>?_))<;>try refine sm ?_)
     | refine And.intro trivial ?_
     | refine And.intro (by omega) ?_
     | refine aI rfl (fun _=>?_) (fun _=>?_)
     | refine And.intro ?_ ?_
   exact oC (L1:=L.set i .dead) L.length (.cells (C++[.str y,.lsl q 0 z none 1])) rfl (by simp) iY (Nat.le_refl _) (by simp) (by simp [AV.refs]) (AV.refsL_iff.2 fun a ha=>by
     simp only [List.mem_append,List.mem_cons,List.not_mem_nil,or_false] at ha
     rcases ha with ha|rfl|rfl
     · exact hcc.out a ha
     · rfl
     · simpa [AV.refs] using hq) (by simpa [AV.ren] using hfin.out)
 have g1:¬ (k:Int)=(n:Int):=by omega
 have g2:IntKind.i64.wrap ((n:Int)+1)=(n:Int)+1:=ab (by omega) (by omega)
 have g3:IntKind.i64.wrap ((k:Int)+1)=(k:Int)+1:=ab (by omega) (by omega)
 have g4:IntKind.i64.wrap ((n:Int)+1 - (k:Int))=(n:Int)+1 - (k:Int):=ab (by omega) (by omega)
 have g5:((n:Int)+1).toNat=n+1:=by omega
 have g6:((k:Int)+1).toNat=k+1:=by omega
 have g7:((n:Int)+1 - (k:Int)).toNat=n+1 - k:=by omega
 by_cases hroom:n+1≤cp
 · have g8:¬ (cp:Int)<(n:Int)+1:=by omega
   refine QB 0 rfl hL (by omega) ?_
   simp only [Nat.zero_add,Nat.mul_one]
   obtain ⟨R,hR⟩:∃ R,R=rest++List.replicate (cp * 2 - (C++rest).length) AV.undef:=⟨_,rfl⟩
   rw [List.append_assoc,← hR]
   have hRl:cp * 2≤n * 2+R.length:=by rw [hR];simp;omega
   have hRr:∀ a∈R,a.refs (fun i=>decide (i<L.length))=true:=fun a ha=>by
     rw [hR,List.mem_append] at ha
     rcases ha with h|h
     · exact hcr2.out a h
     · obtain ⟨_,rfl⟩:=List.mem_replicate.1 h;rfl
   replace hRr:=hid hRr
   clear hR
   have gm:min (n+1 - k) (n+1 - (k+1))=n - k:=by omega
   have gm2:min 1 (n+1 - k)=1:=by omega
   have hA:List.take ((n - k) * 2) (List.take ((n+1 - k) * 2) (List.drop (k * 2) (C++R)))=C.drop (k * 2):=by
     rw [List.take_take,List.drop_append_of_le_length (by omega),List.take_append_of_le_length (by simp;omega),List.take_of_length_le (by simp;omega)]
   have hB:∀ Z,List.take (k * 2) (List.take ((k+1) * 2) (C++R)++Z)=C.take (k * 2):=fun Z=>by
     rw [List.take_append_of_le_length (by simp;omega),List.take_take,Nat.min_eq_left (by omega),List.take_append_of_le_length (by omega)]
   have hC1:∀ Z,List.drop (k * 2+2) (List.take ((k+1) * 2) (C++R)++Z)=Z:=fun Z=>by
     have:(List.take ((k+1) * 2) (C++R)).length=(k+1) * 2:=by simp;omega
     rw [List.drop_append_of_le_length (by omega),List.drop_of_length_le (by omega)];simp
   have hfin:=h.out (List.drop ((k+1) * 2+(n * 2 - k * 2)) (C++R))
   have hrf:∀ a∈C.take (k * 2) ++ .str y :: .lsl q 0 z none 1::(C.drop (k * 2)++List.drop ((k+1) * 2+(n * 2 - k * 2)) (C++R)),a.refs (fun i=>decide (i<L.length))=true:=fun a ha=>by
     simp only [List.mem_append,List.mem_cons] at ha
     rcases ha with ha|rfl|rfl|ha|ha
     · exact hcc.out a (List.mem_of_mem_take ha)
     · rfl
     · simpa [AV.refs] using hq
     · exact hcc.out a (List.mem_of_mem_drop ha)
     · have:=List.mem_of_mem_drop ha
       rcases List.mem_append.1 this with h1|h1
       · exact hcc.out a h1
       · exact hRr.out a h1
   replace hrf:=hid hrf
   rw [List.append_assoc,List.cons_append,List.cons_append] at hfin
   replace hfin:=hid hfin
   repeat' first
     | refine a8 ?_
     | (first|refine aM (by kernel_rfl) ?_|refine aA (by kernel_rfl) ?_|refine aB ?_|refine bV ?_|refine bc (fun _=>?_)|refine au ?_|refine aT ?_|refine SX (.inr (by simp)) (hset _) (by omega) ?_)
       simp (config:={ maxSteps:=2000000 }) only [List.set_set,List.length_take,List.length_drop,Kon,push_cast,reduceIte,Nat.reduceEqDiff,Nat.reduceAdd,Nat.reduceMul,Nat.reduceSub,Nat.reduceLT,Nat.reduceLeDiff,Int.reduceLT,Int.reduceLE,Int.reduceAdd,Int.reduceSub,Int.reduceNeg,Int.reduceToNat,Int.reduceEq,reduceCtorEq, *]
     | (first|refine aP (by kernel_rfl) ?_|refine aN ?_|refine aO ?_|refine ba (ax ?_))
       refine sl ?_
     | exact bd
     | first|apply be|apply aQ|apply bf|apply aR|apply bg|apply aS
     | refine aC ?_
     | first|refine aD rfl ?_|refine aE rfl ?_|refine ao rfl ?_ ?_|refine aH rfl (fun _=>?_) (fun _=>?_)|refine aG rfl (fun _=>?_) (fun _=>?_)
     | ((first|refine an (fun _=>?_) (fun _=>?_)|refine aw (fun _=>?_) (fun _=>?_))<;>try simp (config:={ maxSteps:=2000000 }) only [List.set_set,List.length_take,List.length_drop,Kon,push_cast,reduceIte,Nat.reduceEqDiff,Nat.reduceAdd,Nat.reduceMul,Nat.reduceSub,Nat.reduceLT,Nat.reduceLeDiff,Int.reduceLT,Int.reduceLE,Int.reduceAdd,Int.reduceSub,Int.reduceNeg,Int.reduceToNat,Int.reduceEq,reduceCtorEq, *])
     | refine And.intro trivial ?_
     | refine And.intro (by omega) ?_
     | refine aI rfl (fun _=>?_) (fun _=>?_)
     | refine And.intro ?_ ?_
   refine JE (Qv (hset _) ?_)
   rw [List.set_set]
   refine oC (L1:=L.set i .dead) (L.set i .dead).length (.cells (C.take (k * 2) ++ .str y :: .lsl q 0 z none 1::(C.drop (k * 2)++List.drop ((k+1) * 2+(n * 2 - k * 2)) (C++R)))) rfl (by simp) iY (by simp) (by simp) (by simp [AV.refs]) (AV.refsL_iff.2 hrf.out) ?_
   simpa [AV.ren] using hfin.out
 · have g8:(cp:Int)<(n:Int)+1:=by omega
   have g9:k+(n+1 - k)=n+1:=by omega
   have g10:((k:Int)+((n+1 - k:Nat):Int)).toNat - k=n+1 - k:=by omega
   have gm2:min 1 (n+1 - k)=1:=by omega
   have gm3:min (n - k) (n+1 - (k+1))=n - k:=by omega
   obtain ⟨ZZ,hZZ⟩:∃ ZZ,ce [.str [],.sl [] 0 (some 0)] (n+1 - k)=ZZ:=⟨_,rfl⟩
   have hZl:ZZ.length=(n+1 - k) * 2:=by rw [← hZZ,CX];simp
   have hLX:∀ X:List Blk,(L++X)[i]?=some (.cells (C++rest)):=fun X=>by rw [List.getElem?_append_left hi];exact hL
   have hT:∀ Z,List.take (k * 2) (List.take (k * 2) (C++rest)++Z)=C.take (k * 2):=fun Z=>by
     rw [List.take_append_of_le_length (by simp;omega),List.take_take,Nat.min_self,List.take_append_of_le_length (by omega)]
   have hT2:∀ Z,List.take ((k+1) * 2) (C.take (k * 2) ++ .str y :: .lsl q 0 z none 1::Z)=C.take (k * 2)++[.str y,.lsl q 0 z none 1]:=fun Z=>by
     have:(C.take (k * 2)).length=k * 2:=by simp;omega
     rw [show C.take (k * 2) ++ .str y :: .lsl q 0 z none 1::Z=(C.take (k * 2)++[.str y,.lsl q 0 z none 1])++Z by simp,List.take_append_of_le_length (by simp;omega),List.take_of_length_le (by simp;omega)]
   have hA:List.take ((n - k) * 2) (List.take ((n - k) * 2) (List.drop (k * 2) (C++rest)))=C.drop (k * 2):=by
     rw [List.take_take,Nat.min_self,List.drop_append_of_le_length (by omega),List.take_append_of_le_length (by simp;omega),List.take_of_length_le (by simp;omega)]
   have hD2:List.drop ((k+1) * 2+(n * 2 - k * 2)) (C.take (k * 2) ++ .str y :: .lsl q 0 z none 1::List.drop (k * 2+2) (List.take (k * 2) (C++rest)++ZZ))=[]:=List.drop_eq_nil_of_le (by simp;omega)
   have hfin:=h.out []
   rw [List.append_nil] at hfin
   have hrf:∀ a∈C.take (k * 2) ++ .str y :: .lsl q 0 z none 1::C.drop (k * 2),a.refs (fun i=>decide (i<L.length))=true:=fun a ha=>by
     simp only [List.mem_append,List.mem_cons] at ha
     rcases ha with ha|rfl|rfl|ha
     · exact hcc.out a (List.mem_of_mem_take ha)
     · rfl
     · simpa [AV.refs] using hq
     · exact hcc.out a (List.mem_of_mem_drop ha)
   replace hrf:=hid hrf
   replace hfin:=hid hfin
   repeat' first
     | refine a8 ?_
     | (first|refine aM (by kernel_rfl) ?_|refine aA (by kernel_rfl) ?_|refine aB ?_|refine bV ?_|refine bc (fun _=>?_)|refine au ?_|refine aT ?_)
       simp (config:={ maxSteps:=2000000 }) only [List.set_set,List.length_take,List.length_drop,Kon,push_cast,reduceIte,Nat.reduceEqDiff,Nat.reduceAdd,Nat.reduceMul,Nat.reduceSub,Nat.reduceLT,Nat.reduceLeDiff,Int.reduceLT,Int.reduceLE,Int.reduceAdd,Int.reduceSub,Int.reduceNeg,Int.reduceToNat,Int.reduceEq,reduceCtorEq, *]
     | (first|refine aP (by kernel_rfl) ?_|refine aN ?_|refine aO ?_|refine ba (ax ?_))
       refine sl ?_
     | exact bd
     | first|apply be|apply aQ|apply bf|apply aR|apply bg|apply aS
     | refine aC ?_
     | first|refine aD rfl ?_|refine aE rfl ?_|refine ao rfl ?_ ?_|refine aH rfl (fun _=>?_) (fun _=>?_)|refine aG rfl (fun _=>?_) (fun _=>?_)
     | ((first|refine an (fun _=>?_) (fun _=>?_)|refine aw (fun _=>?_) (fun _=>?_))<;>try simp (config:={ maxSteps:=2000000 }) only [List.set_set,List.length_take,List.length_drop,Kon,push_cast,reduceIte,Nat.reduceEqDiff,Nat.reduceAdd,Nat.reduceMul,Nat.reduceSub,Nat.reduceLT,Nat.reduceLeDiff,Int.reduceLT,Int.reduceLE,Int.reduceAdd,Int.reduceSub,Int.reduceNeg,Int.reduceToNat,Int.reduceEq,reduceCtorEq, *])
     | refine And.intro trivial ?_
     | refine And.intro (by omega) ?_
     | refine aI rfl (fun _=>?_) (fun _=>?_)
     | refine And.intro ?_ ?_
   refine JD i ?_
   rw [List.set_append_left _ _ hi]
   refine oC (L1:=L.set i .dead) L.length (.cells (C.take (k * 2) ++ .str y :: .lsl q 0 z none 1::C.drop (k * 2))) rfl (by simp) iY (by simp) (by simp) (by simp [AV.refs]) (AV.refsL_iff.2 hrf.out) ?_
   simpa [AV.ren] using hfin.out
set_option maxHeartbeats 8000000
set_option maxRecDepth 100000
abbrev a6 (s:List UInt8):Prop:=(s.length:Int)≤140737488351232
theorem Jl (a b:List UInt8):Lib.compareBytes a b<0↔a<b:=by
 rw [H6]
 by_cases h:a<b
 · simp [h]
 · by_cases h2:b<a<;>simp [h,h2]
theorem Hp (a b:List UInt8):Lib.compareBytes a b=0↔a=b:=by
 rw [H6]
 by_cases h:a<b
 · simp only [h,if_true]
   exact ⟨fun e=>by omega,fun e=>by subst e;exact absurd h (List.lt_irrefl _)⟩
 · by_cases h2:b<a
   · simp only [h,h2,if_true,if_false]
     exact ⟨fun e=>by omega,fun e=>by subst e;exact absurd h2 (List.lt_irrefl _)⟩
   · simp only [h,h2,if_false,true_iff]
     exact List.le_antisymm (List.not_lt.1 h2) (List.not_lt.1 h)
def TY (w:AV):Prop:=(∃ l n cap,w=.sl l n cap)∨∃ i off n cp s,w=.lsl i off n cp s
theorem OC {x n:List UInt8} {w:AV} (hx:a6 x) (hw:TY w) {L:List Blk} {K:AV→List Blk→Prop} (h:K (.int .i64 (Lib.compareBytes (ae x) n)) L) :
   af Tryz.prog 85 [.agg [.str x,w],.str n] L K:=by
 replace h:=hid h
 rcases hw with ⟨l,m,cap,rfl⟩|⟨i,off,m,cp,s,rfl⟩
 · refine ai jy (by simp [eu]) ?_
   simp only [eu,ar]
   have kk1:=@hid _ (fun L K=>oU hx (L:=L) (K:=K))
   have kk2:=@hid _ @oH
   refine wk ?_
   exact ad rfl h.out
 · refine ai jy (by simp [eu]) ?_
   simp only [eu,ar]
   have kk1:=@hid _ (fun L K=>oU hx (L:=L) (K:=K))
   have kk2:=@hid _ @oH
   refine wk ?_
   exact ad rfl h.out
def VK (l:List Atr) (C:List AV):Prop:=C.length=l.length * 2∧∀ h:Nat,h<l.length→∃ w,TY w∧(C.drop (h * 2)).take 2=[.str (l.getD h ([],[])).1,w]
def C6 {α:Type} (key:α→List UInt8) (l:List α) (k:List UInt8):Bool:=l.any fun a=>decide (key a=k)
theorem C5 {α:Type} {key:α→List UInt8} {l:List α} {k:List UInt8} (hr:fT key l) {d:α}:C6 key l k=(decide (dt key l k<l.length) && decide (key (l.getD (dt key l k) d)=k)):=by
 rw [C6,Mk hr]
 by_cases hc:dt key l k<l.length
 · rw [List.getElem?_eq_getElem hc,decide_eq_true hc,Bool.true_and]
   simp [hc]
 · rw [List.getElem?_eq_none (by omega),decide_eq_false hc]
   rfl
theorem ST {l:List Atr} {C:List AV} {v:AV} {n:List UInt8} {L:List Blk} (hl:l.length≤1000000) (hC:VK l C) (hrow:KF L C l.length 2 v) (hr:fT ch l) (hn:a6 n) (hz:∀ a∈l,a6 a.1)
   {K:AV→List Blk→Prop} (h:K (.tup [.int .i64 (dt ch l (ae n):Nat),.bool (C6 ch l (ae n))]) L) :
   af Tryz.prog 54 [v,.str n] L K:=by
 have hbs:∀ {K:AV→List Blk→Prop},K (.tup [.int .i64 (dt ch l (ae n):Nat),.bool (C6 ch l (ae n))]) L→af Tryz.prog 83 [v,.str (ae n),.func 85 []] L K:=fun {K} q=>by
   refine Vy (m:=dt ch l (ae n)) (c:=fun h=>Lib.compareBytes (ch (l.getD h ([],[]))) (ae n)) hl hC.1 (xF _ _ _) hrow (fun h K hh hk=>?_) (fun h hh=>?_) ?_
   · obtain ⟨w,hw,e⟩:=hC.2 h hh
     simp only [e]
     refine OC (hz _ ?_) hw hk
     simp [hh]
   · simp only [Jl]
     have:=Kv (key:=ch) (k:=ae n) hr h hh
     simpa [hh] using this
   · have:=C5 (key:=ch) (k:=ae n) hr (d:=([],[]))
     rw [this] at q
     simpa only [Hp] using q
 replace hbs:=@hid _ @hbs
 replace h:=hid h
 rcases hrow with ⟨cap,rfl⟩|⟨bi,cp,rest,rfl,hL⟩
 · refine ai ox (by simp [fm]) ?_
   simp only [fm,ar]
   have kk2:=@hid _ @hbs.out
   have kk1:=@hid _ (fun L K=>oU hn (L:=L) (K:=K))
   refine wk ?_
   exact aa h.out
 · refine ai ox (by simp [fm]) ?_
   simp only [fm,ar]
   have kk2:=@hid _ @hbs.out
   have kk1:=@hid _ (fun L K=>oU hn (L:=L) (K:=K))
   refine wk ?_
   exact aa h.out
abbrev tyC (ty:Typ):List AV:=[.str ty.1,.int .i64 ty.2.1,.bool ty.2.2.1,.bool ty.2.2.2]
theorem Mc {x n:List UInt8} {ty:Typ} {p:Nat} {L:List Blk} (hp:L[p]?=some (.cells (tyC ty))) {K:AV→List Blk→Prop} (h:K (.int .i64 (Lib.compareBytes (cx ty.2.1 x) n)) L) :
   af Tryz.prog 89 [.str x,.str n,.ptr p 0] L K:=by
 unfold cx at h
 refine ai Ar (by simp [iz]) ?_
 simp only [iz,ar]
 refine wk ?_
 refine Aa ?_
 rcases hm:eT ty.2.1 x with _|m
 all_goals rw [hm] at h
 · replace h:Hid (K (.int .i64 (Lib.compareBytes [] n)) L):=hid h
   simp only [sP]
   refine sk ?_
   have kk1:=@hid _ @oH
   refine wk ?_
   exact aa h.out
 · replace h:Hid (K (.int .i64 (Lib.compareBytes m n)) L):=hid h
   simp only [sP]
   refine sk ?_
   have kk1:=@hid _ @oH
   refine wk ?_
   exact aa h.out
def QO (syn:Int) (l:List (List UInt8)) (v:List UInt8):AV:=match eT syn v with
 | none=>.tup [.int .i64 0,.bool false,.bool false]
 | some n=>.tup [.int .i64 (dt (cx syn) l n:Nat),.bool (C6 (cx syn) l n),.bool true]
theorem Pv {ty:Typ} {l:List (List UInt8)} {w:AV} {v:List UInt8} {L:List Blk} (hl:l.length≤1000000) (hrow:KF L (l.map AV.str) l.length 1 w) (hr:fT (cx ty.2.1) l) {K:AV→List Blk→Prop} (h:K (QO ty.2.1 l v) L) :
   af Tryz.prog 56 [.agg (tyC ty),w,.str v] L K:=by
 have hbs:∀ (X:List Blk) (n:List UInt8) {K:AV→List Blk→Prop},K (.tup [.int .i64 (dt (cx ty.2.1) l n:Nat),.bool (C6 (cx ty.2.1) l n)]) (L++(.cells (tyC ty)::X))→af Tryz.prog 88 [w,.str n,.func 89 [.ptr L.length 0]] (L++(.cells (tyC ty)::X)) K:=fun X n {K} q=>by
   have hrow':KF (L++(.cells (tyC ty)::X)) (l.map AV.str) l.length 1 w:=by
     rcases hrow with ⟨cap,rfl⟩|⟨bi,cp,rest,rfl,hL⟩
     · exact .inl ⟨cap,rfl⟩
     · exact .inr ⟨bi,cp,rest,rfl,by rw [List.getElem?_append_left (List.getElem?_eq_some_iff.1 hL).1];exact hL⟩
   refine Vx (m:=dt (cx ty.2.1) l n) (c:=fun h=>Lib.compareBytes (cx ty.2.1 (l.getD h [])) n) hl (by simp) (xF _ _ _) hrow' (fun h K hh hk=>?_) (fun h hh=>?_) ?_
   · have e:(l.map AV.str).getD h .undef=.str (l.getD h []):=by simp [hh]
     simp only [e]
     exact Mc (by rw [List.getElem?_append_right (Nat.le_refl _),Nat.sub_self];rfl) hk
   · simp only [Jl]
     have:=Kv (key:=cx ty.2.1) (k:=n) hr h hh
     simpa [hh] using this
   · have:=C5 (key:=cx ty.2.1) (k:=n) hr (d:=[])
     rw [this] at q
     simpa only [Hp] using q
 replace hbs:=@hid _ @hbs
 unfold QO at h
 rcases hrow with ⟨cap,rfl⟩|⟨bi,cp,rest,rfl,hL⟩
 · refine ai ow (by simp [fk]) ?_
   simp only [fk,ar]
   refine wk ?_
   refine Aa ?_
   rcases hn:eT ty.2.1 v with _|n
   · rw [hn] at h
     simp only at h
     replace h:=hid h
     simp only [sP]
     refine sk ?_
     refine wk ?_
     exact ad rfl h.out
   · rw [hn] at h
     simp only at h
     replace h:=hid h
     simp only [sP]
     refine sk ?_
     refine wk ?_
     refine hbs.out [] n ?_
     refine sk ?_
     refine wk ?_
     exact ad rfl h.out
 · refine ai ow (by simp [fk]) ?_
   simp only [fk,ar]
   refine wk ?_
   refine Aa ?_
   rcases hn:eT ty.2.1 v with _|n
   · rw [hn] at h
     simp only at h
     replace h:=hid h
     simp only [sP]
     refine sk ?_
     refine wk ?_
     exact ad rfl h.out
   · rw [hn] at h
     simp only at h
     replace h:=hid h
     simp only [sP]
     refine sk ?_
     refine wk ?_
     refine hbs.out [] n ?_
     refine sk ?_
     refine wk ?_
     exact ad rfl h.out
set_option maxHeartbeats 8000000
set_option maxRecDepth 100000
def b9 (ts:List Typ):List AV:=ts.flatMap tyC
theorem gG (ts:List Typ):(b9 ts).length=ts.length * 4:=by
 induction ts with
 | nil=>rfl
 | cons a l ih=>simp only [b9,List.flatMap_cons,List.length_append,tyC,List.length_cons,List.length_nil] at ih ⊢;omega
abbrev fW:Typ:=([],0,false,false)
theorem iQ:∀ {ts:List Typ} {k:Nat},k<ts.length→((b9 ts).drop (k * 4)).take 4=tyC (ts.getD k fW)
 | a::l,0,_=>rfl
 | a::l,k+1,h=>by
   have ih:=@iQ l k (by simpa using h)
   rw [show (k+1) * 4=k * 4+1+1+1+1 by omega]
   simpa [b9,tyC] using ih
theorem Up {a b:List UInt8} (ha:a6 a) (hb:a6 b) {L:List Blk} {K:AV→List Blk→Prop} (h:K (.bool (decide (ae a=ae b))) L):af Tryz.prog 107 [.str a,.str b] L K:=by
 replace h:=hid h
 refine ai Dj (by simp [kG]) ?_
 simp only [kG,ar]
 have kk1:=@hid _ (fun L K=>oU ha (L:=L) (K:=K))
 have kk2:=@hid _ (fun L K=>oU hb (L:=L) (K:=K))
 refine wk ?_
 exact aa h.out
theorem S2 {ty:Typ} {n:List UInt8} {p:Nat} (ha:a6 ty.1) (hn:a6 n) {L:List Blk} (hp:L[p]?=some (.cells [.str n])) {K:AV→List Blk→Prop} (h:K (.bool (decide (ae ty.1=ae n))) L) :
   af Tryz.prog 106 [.agg (tyC ty),.ptr p 0] L K:=by
 replace h:=hid h
 have hp2:∀ X:List Blk,(L++X)[p]?=some (.cells [.str n]):=fun X=>by
   rw [List.getElem?_append_left (List.getElem?_eq_some_iff.1 hp).1];exact hp
 refine ai ov (by simp [eL]) ?_
 simp only [eL,ar]
 have kk1:=@hid _ (fun L K=>Up ha hn (L:=L) (K:=K))
 refine wk ?_
 exact ad rfl h.out
theorem Uy {f:FuncId} {caps:List AV} {ts:List Typ} {cap:Option Nat} {q:Typ→Bool} {L:List Blk} (hn:ts.length≤1000000) (hf:∀ (ty:Typ) (K:AV→List Blk→Prop),ty∈ts→K (.bool (q ty)) L→af Tryz.prog f (.agg (tyC ty)::caps) L K)
   {K:AV→List Blk→Prop} (h1:(∀ ty∈ts,q ty=false)→K (.int .i64 (-1)) L) (h2:∀ k:Nat,k<ts.length→(∀ j,j<k→q (ts.getD j fW)=false)→q (ts.getD k fW)=true→K (.int .i64 k) L) :
   af Tryz.prog 105 [.sl (b9 ts) ts.length cap,.func f caps] L K:=by
 replace hf:=hid hf
 replace h1:=hid h1
 replace h2:=hid h2
 refine ai eF (by simp [bQ]) ?_
 simp only [bQ,ar]
 refine wk ?_
 refine am (fun n T' L'=>∃ k:Nat,n=ts.length - k∧k≤ts.length∧T'=[(8,.int .i64 (k:Int)),(7,.int .i64 ts.length),(0,.sl (b9 ts) ts.length cap),(1,.func f caps)]∧L=L' ∧
   ∀ j,j<k→q (ts.getD j fW)=false) (CutS (b:=Nat.le_refl _)) ⟨0,rfl,Nat.zero_le _,rfl,rfl,by simp⟩ ?_
 rintro _ _ L' ⟨k,rfl,hk,rfl,e,hr⟩
 subst e
 replace hr:=hid hr
 by_cases hlt:k<ts.length
 · have g1:(k:Int)<(ts.length:Int):=by omega
   have g2:IntKind.i64.wrap ((k:Int)+1)=(k:Int)+1:=ab (by omega) (by omega)
   have e4:k * 4+4≤(b9 ts).length:=by rw [gG];omega
   have e3:=iQ hlt
   obtain ⟨ty,hty⟩:∃ ty,ts.getD k fW=ty:=⟨_,rfl⟩
   have hm:ty∈ts:=by rw [← hty];simp [hlt]
   rw [hty] at e3
   replace hty:=hid hty
   rcases hqk:q ty with _|_
   · have kk1:Hid (∀ {K:AV→List Blk→Prop},K (.bool false) L→af Tryz.prog f (.agg (tyC ty)::caps) L K):=hid fun a=>hf.out ty _ hm (by rw [hqk];exact a)
     replace hqk:=hid hqk
     simp only [tyC] at kk1 e3
     refine wk ?_
     refine aj _ _ _ (by omega) (CutL (b:=by simp)) ⟨k+1,rfl,hlt,rfl,rfl,fun j hj=>?_⟩
     rcases Nat.lt_or_ge j k with h|h
     · exact hr.out j h
     · have:j=k:=by omega
       subst this;rw [hty.out];exact hqk.out
   · have kk1:Hid (∀ {K:AV→List Blk→Prop},K (.bool true) L→af Tryz.prog f (.agg (tyC ty)::caps) L K):=hid fun a=>hf.out ty _ hm (by rw [hqk];exact a)
     replace hqk:=hid hqk
     simp only [tyC] at kk1 e3
     refine wk ?_
     exact aa (h2.out k hlt hr.out (by rw [hty.out];exact hqk.out))
 · have g1:¬ (k:Int)<(ts.length:Int):=by omega
   refine wk ?_
   refine aa (h1.out fun ty hty=>?_)
   obtain ⟨j,hj,e⟩:=List.mem_iff_getElem.1 hty
   have:=hr.out j (by omega)
   simpa [hj,e] using this
def Ed (o:Option Typ):AV:=.tup [.agg (tyC (o.getD fW)),.bool o.isSome]
theorem oV {α:Type} {q:α→Bool} {d:α}:∀ {l:List α} {k:Nat},k<l.length→(∀ j,j<k→q (l.getD j d)=false)→q (l.getD k d)=true→l.find? q=some (l.getD k d)
 | a::t,0,_,_,h=>by
   simp only [List.getD_cons_zero] at h ⊢
   rw [List.find?_cons,h]
 | a::t,k+1,hk,hp,h=>by
   have h0:=hp 0 (by omega)
   simp only [List.getD_cons_zero] at h0
   rw [List.find?_cons,h0]
   simp only [List.getD_cons_succ] at h ⊢
   exact oV (by simpa using hk) (fun j hj=>by simpa using hp (j+1) (by omega)) h
theorem Uq {ts:List Typ} {capT:Option Nat} {c2:List AV} {n2:Nat} {cap2:Option Nat} {n:List UInt8} (hl:ts.length≤1000000) (hts:∀ t∈ts,a6 t.1) (hn:a6 n) {L:List Blk} {K:AV→List Blk→Prop} (h:K (Ed (gq ts n)) L) :
   af Tryz.prog 75 [.agg [.sl (b9 ts) ts.length capT,.sl c2 n2 cap2],.str n] L K:=by
 replace h:=hid h
 refine ai sY (by simp [fu]) ?_
 simp only [fu,ar]
 refine wk ?_
 refine Uy (q:=fun t=>decide (ae t.1=ae n)) hl (fun ty K hm hk=>?_) (fun hno=>?_) (fun k hk hp hq=>?_)
 · exact S2 (hts ty hm) hn (by simp) hk
 · have e:gq ts n=none:=List.find?_eq_none.2 fun t ht=>by simpa using hno t ht
   rw [e] at h
   simp only [Ed,Option.getD_none,Option.isSome_none,tyC] at h
   refine sk ?_
   refine wk ?_
   exact ad rfl h.out
 · have e:gq ts n=some (ts.getD k fW):=oV (d:=fW) hk hp hq
   have e4:k * 4+4≤(b9 ts).length:=by rw [gG];omega
   have e3:=iQ hk
   have g1:¬ (k:Int)<0:=by omega
   have g2:(k:Int)<(ts.length:Int):=by omega
   obtain ⟨ty,hty⟩:∃ ty,ts.getD k fW=ty:=⟨_,rfl⟩
   rw [hty] at e e3
   rw [e] at h
   simp only [Ed,Option.getD_some,Option.isSome_some,tyC] at h e3
   clear hp hq hty e
   refine sk ?_
   refine wk ?_
   exact ad rfl h.out
theorem UF {ts:List Typ} {capT:Option Nat} {c2:List AV} {n2:Nat} {cap2:Option Nat} {n:List UInt8} (hl:ts.length≤1000000) (hts:∀ t∈ts,a6 t.1) (hn:a6 n) {L:List Blk} {K:AV→List Blk→Prop} (h:K (Ed (gq ts n)) L) :
   af Tryz.prog 49 [.agg [.sl (b9 ts) ts.length capT,.sl c2 n2 cap2],.str n] L K:=by
 unfold Ed at h
 refine ai Dk (by simp [kH]) ?_
 simp only [kH,ar]
 refine wk ?_
 refine Uq hl hts hn ?_
 unfold Ed
 obtain ⟨ty,hty⟩:∃ ty,(gq ts n).getD fW=ty:=⟨_,rfl⟩
 obtain ⟨b,hb⟩:∃ b,(gq ts n).isSome=b:=⟨_,rfl⟩
 rw [hty,hb] at h ⊢
 replace h:=hid h
 refine sk ?_
 refine wk ?_
 exact ad rfl h.out
end Go.Proofs.YtohflefnbajajaaGreatDoor.Av
