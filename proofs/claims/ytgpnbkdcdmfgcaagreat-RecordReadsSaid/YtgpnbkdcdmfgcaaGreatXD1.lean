/- Joined texts of the walk, made small by a program. -/
import Derived.Test.YtgpnbkdcdmfgcaaGreatXP4
import Derived.Test.YtgpnbkdcdmfgcaaGreatRows
import Derived.KernelRfl
import Derived.Test.YtgpnbkdcdmfgcaaGreatXO1
import Derived.Test.YtgpnbkdcdmfgcaaGreatXShelfP
import Derived.Laws.RangeAny
import Derived.Laws.RangeString
import Derived.Test.YtgpnbkdcdmfgcaaGreatXP5
set_option linter.unusedSimpArgs false
set_option linter.unusedVariables false
set_option maxRecDepth 100000
namespace Go.Proofs.YtgpnbkdcdmfgcaaGreat.Av
open Go
def BJ:List SOp :=
 [o1 2 (.mv (.av (.bool false)))]
def BI:List SOp :=
 [o1 5 (.mv (tm 0)),
 o1 6 (.bin .eql (tm 5) (.av (.str []))),
 o1 7 (.mv (tm 6)),
 .grp none 7 false
 [og 8 7 false (.mv (tm 0)),
 og 9 7 false (.len true (tm 8)),
 og 10 7 false (.bin .gtr (tm 9) (iv 32))]
 11 (tm 10),
 o1 12 (.mv (tm 11)),
 .grp none 12 false
 [og 13 12 false (.mv (tm 0)),
 og 14 12 false (.idxS (tm 13) (iv 0)),
 og 15 12 false (.conv .i32 (tm 14)),
 og 16 12 false (.call 90 [(tm 15)]),
 og 17 12 false (.un .not (tm 16))]
 18 (tm 17)]
def BH:List SOp :=
 [o1 2 (.mv (.av (.bool false)))]
def BG:List SOp :=
 [o1 19 (.mv (tm 0)),
 o1 20 (.rangeS (tm 19))]
def BF:List SOp :=
 [o1 21 (.nextS (tm 20)),
 o1 22 (.extract (tm 21) 0)]
def BE:List SOp :=
 [o1 23 (.extract (tm 21) 2),
 o1 4 (.mv (tm 23))]
def BD:List SOp :=
 [o1 24 (.mv (tm 4)),
 o1 25 (.call 90 [(tm 24)]),
 o1 26 (.un .not (tm 25)),
 o1 27 (.mv (tm 26)),
 .grp none 27 true
 [og 28 27 true (.mv (tm 4)),
 og 29 27 true (.bin .lss (tm 28) (.av (.int .i32 48))),
 og 30 27 true (.mv (tm 29)),
 .grp (some (27,true)) 30 false
 [og 31 30 false (.mv (tm 4)),
 og 32 30 false (.bin .gtr (tm 31) (.av (.int .i32 57)))]
 33 (tm 32)]
 34 (tm 33),
 o1 35 (.mv (tm 34)),
 .grp none 35 true
 [og 36 35 true (.mv (tm 4)),
 og 37 35 true (.bin .neq (tm 36) (.av (.int .i32 45)))]
 38 (tm 37)]
def BC:List SOp :=
 [o1 2 (.mv (.av (.bool false)))]
def BB:List SOp :=
 [o1 2 (.mv (.av (.bool true)))]
def A2:aK:=⟨39,(.seq (.sreg BJ [])
 (.seq (.seq (.sreg BI [true,false,false,false,false,false])
 (.cond (tm 18) (.seq (.sreg BH [])
 .ret)
 .skip))
 (.seq (.seq (.sreg BG [true,false])
 (.block 0 (.loop (.seq (.sreg BF [])
 (.seq (.cond (tm 22) .skip
 (.exit 0))
 (.block 1 (.seq (.sreg BE [true,false])
 (.seq (.sreg BD [true,false,false,false,false,false,false])
 (.cond (tm 38) (.seq (.sreg BC [])
 .ret)
 .skip)))))))))
 (.seq (.sreg BB [])
 .ret)))),[(.tmp 2)]⟩
attribute [push_cast] BJ BI BH BG BF BE BD BC BB
theorem EX:aQ Tryz.prog (fun _ _=>1) 62=some A2.raw:=by kernel_rfl
def xt:List SOp :=
 [o1 2 (.mv (.av (.bool false)))]
def xr:List SOp :=
 [o1 3 (.mv (tm 0)),
 o1 4 (.bin .geq (tm 3) (.av (.int .i32 97))),
 o1 5 (.mv (tm 4)),
 .grp none 5 true
 [og 6 5 true (.mv (tm 0)),
 og 7 5 true (.bin .leq (tm 6) (.av (.int .i32 122)))]
 8 (tm 7),
 o1 9 (.mv (tm 8)),
 .grp none 9 false
 [og 10 9 false (.mv (tm 0)),
 og 11 9 false (.bin .geq (tm 10) (.av (.int .i32 65))),
 og 12 9 false (.mv (tm 11)),
 .grp (some (9,false)) 12 true
 [og 13 12 true (.mv (tm 0)),
 og 14 12 true (.bin .leq (tm 13) (.av (.int .i32 90)))]
 15 (tm 14)]
 16 (tm 15),
 o1 2 (.mv (tm 16))]
def vc:aK:=⟨17,(.seq (.sreg xt [])
 (.seq (.sreg xr [true,false,false,false,false,false,false])
 .ret)),[(.tmp 2)]⟩
attribute [push_cast] xt xr
theorem Dt:aQ Tryz.prog (fun _ _=>1) 90=some vc.raw:=by kernel_rfl
def CK:List SOp :=
 [o1 3 (.box (tm 1)),
 o1 4 (.mv (.av (.bool false)))]
def CJ:List SOp :=
 [o1 5 (.mv (tm 0)),
 o1 6 (.mkfn 92 [(tm 3)]),
 o1 7 (.call 91 [(tm 5),(tm 6)]),
 o1 4 (.mv (tm 7))]
def Du:aK:=⟨8,(.seq (.sreg CK [])
 (.seq (.sreg CJ [true,false,false,false])
 .ret)),[(.tmp 4)]⟩
attribute [push_cast] CK CJ
theorem FV:aQ Tryz.prog (fun _ _=>1) 63=some Du.raw:=by kernel_rfl
def zF:List SOp :=
 [o1 2 (.box (tm 0)),
 o1 3 (.mv (.av (.bool false)))]
def zE:List SOp :=
 [o1 4 (.faddr 0 (tm 2)),
 o1 5 (.load false 1 (tm 4)),
 o1 6 (.call 64 [(tm 5)]),
 o1 7 (.load false 1 (tm 1)),
 o1 8 (.call 64 [(tm 7)]),
 o1 9 (.bin .eql (tm 6) (tm 8)),
 o1 3 (.mv (tm 9))]
def yo:aK:=⟨10,(.seq (.sreg zF [])
 (.seq (.sdreg zE [.pure,(.read 0 0),(.read 0 0),(.read 0 0)] [true,false,false,false,false,false,false])
 .ret)),[(.tmp 3)]⟩
attribute [push_cast] zF zE
theorem DM:aQ Tryz.prog (fun _ _=>1) 92=some yo.raw:=by kernel_rfl
def zt:List SOp :=
 [o1 2 (.mv (.av (.str []))),
 o1 3 (.mv (.av (.str []))),
 o1 4 (.mv (.av (.bool false)))]
def zs:List SOp :=
 [o1 5 (.mv (.av (.sl [] 0 (some 0))))]
def zr:List SOp :=
 [o1 6 (.mv (.av (.bool false)))]
def zq:List SOp :=
 [o1 7 (.mv (iv 0))]
def zp:List SOp :=
 [o1 11 (.mv (tm 7)),
 o1 12 (.mv (tm 0)),
 o1 13 (.len true (tm 12)),
 o1 14 (.bin .lss (tm 11) (tm 13)),
 o1 15 (.mv (tm 14)),
 .grp none 15 true
 [og 16 15 true (.mv (tm 0)),
 og 17 15 true (.mv (tm 7)),
 og 18 15 true (.idxS (tm 16) (tm 17)),
 og 19 15 true (.bin .neq (tm 18) (.av (.int .u8 44)))]
 20 (tm 19),
 o1 21 (.mv (tm 20)),
 .grp none 21 true
 [og 22 21 true (.mv (tm 0)),
 og 23 21 true (.mv (tm 7)),
 og 24 21 true (.idxS (tm 22) (tm 23)),
 og 25 21 true (.bin .neq (tm 24) (.av (.int .u8 43)))]
 26 (tm 25)]
def zo:List SOp :=
 [o1 27 (.mv (tm 0)),
 o1 28 (.mv (tm 7)),
 o1 29 (.idxS (tm 27) (tm 28)),
 o1 8 (.mv (tm 29))]
def zn:List SOp :=
 [o1 30 (.mv (tm 8)),
 o1 31 (.bin .eql (tm 30) (.av (.int .u8 32))),
 o1 6 (.mv (tm 31))]
def zm:List SOp :=
 [o1 33 (.mv (tm 8)),
 o1 34 (.bin .neq (tm 33) (.av (.int .u8 92))),
 o1 32 (.mv (tm 34))]
def zl:List SOp :=
 [o1 35 (.mv (tm 8)),
 o1 36 (.bin .eql (tm 35) (.av (.int .u8 0))),
 o1 37 (.mv (tm 36)),
 .grp none 37 false
 [og 38 37 false (.mv (tm 8)),
 og 39 37 false (.call 93 [(.av (.str [34,59,60,62])),(tm 38)]),
 og 40 37 false (.bin .geq (tm 39) (iv 0))]
 41 (tm 40),
 o1 42 (.mv (tm 41)),
 .grp none 42 false
 [og 43 42 false (.mv (tm 5)),
 og 44 42 false (.len false (tm 43)),
 og 45 42 false (.bin .eql (tm 44) (iv 0)),
 og 46 42 false (.mv (tm 45)),
 .grp (some (42,false)) 46 true
 [og 47 46 true (.mv (tm 8)),
 og 48 46 true (.bin .eql (tm 47) (.av (.int .u8 32))),
 og 49 46 true (.mv (tm 48)),
 .grp (some (46,true)) 49 false
 [og 50 49 false (.mv (tm 8)),
 og 51 49 false (.bin .eql (tm 50) (.av (.int .u8 35)))]
 52 (tm 51)]
 53 (tm 52)]
 54 (tm 53)]
def zk:List SOp :=
 [o1 2 (.mv (.av (.str []))),
 o1 3 (.mv (.av (.str []))),
 o1 4 (.mv (.av (.bool false)))]
def xn:List SOp :=
 [o1 56 (.mv (tm 7)),
 o1 57 (.bin .add (tm 56) (iv 1)),
 o1 58 (.mv (tm 0)),
 o1 59 (.len true (tm 58)),
 o1 60 (.bin .lss (tm 57) (tm 59)),
 o1 61 (.mv (tm 60)),
 .grp none 61 true
 [og 62 61 true (.mv (tm 0)),
 og 63 61 true (.mv (tm 7)),
 og 64 61 true (.bin .add (tm 63) (iv 1)),
 og 65 61 true (.idxS (tm 62) (tm 64)),
 og 66 61 true (.call 93 [(.av (.str [34,43,44,59,60,62,92,32,35,61])),(tm 65)]),
 og 67 61 true (.bin .geq (tm 66) (iv 0))]
 68 (tm 67),
 o1 55 (.mv (tm 68))]
def xm:List SOp :=
 [o1 69 (.mv (tm 7)),
 o1 70 (.bin .add (tm 69) (iv 1)),
 o1 7 (.mv (tm 70))]
def xl:List SOp :=
 [o1 71 (.mv (tm 0)),
 o1 72 (.mv (tm 7)),
 o1 73 (.idxS (tm 71) (tm 72)),
 o1 8 (.mv (tm 73))]
def xk:List SOp :=
 [o1 75 (.mv (tm 7)),
 o1 76 (.bin .add (tm 75) (iv 2)),
 o1 77 (.mv (tm 0)),
 o1 78 (.len true (tm 77)),
 o1 79 (.bin .lss (tm 76) (tm 78)),
 o1 74 (.mv (tm 79))]
def xj:List SOp :=
 [o1 81 (.mv (tm 0)),
 o1 82 (.mv (tm 7)),
 o1 83 (.bin .add (tm 82) (iv 1)),
 o1 84 (.mv (tm 7)),
 o1 85 (.bin .add (tm 84) (iv 3)),
 o1 86 (.slS (tm 81) (some (tm 83)) (some (tm 85))),
 o1 87 (.call 101 [(tm 86)]),
 o1 80 (.mv (tm 87)),
 o1 88 (.extract (tm 80) 0),
 o1 89 (.extract (tm 80) 1),
 o1 9 (.mv (tm 88)),
 o1 10 (.mv (tm 89))]
def xi:List SOp :=
 [o1 90 (.mv (tm 10)),
 o1 91 (.un .not (tm 90))]
def xh:List SOp :=
 [o1 2 (.mv (.av (.str []))),
 o1 3 (.mv (.av (.str []))),
 o1 4 (.mv (.av (.bool false)))]
def xg:List SOp :=
 [o1 92 (.mv (tm 9)),
 o1 93 (.idxS (tm 92) (iv 0)),
 o1 8 (.mv (tm 93))]
def xf:List SOp :=
 [o1 94 (.mv (tm 7)),
 o1 95 (.bin .add (tm 94) (iv 2)),
 o1 7 (.mv (tm 95))]
def xe:List SOp :=
 [o1 2 (.mv (.av (.str []))),
 o1 3 (.mv (.av (.str []))),
 o1 4 (.mv (.av (.bool false)))]
def xc:List SOp :=
 [o1 96 (.mv (tm 5)),
 o1 97 (.mv (tm 8)),
 o1 98 (.bslice false 1 1 [(.int .u8 0)] [(0,(1,(tm 97)))]),
 o1 99 (.app 1 1 1 [(.int .u8 0)] (tm 96) (tm 98)),
 o1 5 (.mv (tm 99))]
def xb:List SOp :=
 [o1 100 (.mv (tm 7)),
 o1 101 (.bin .add (tm 100) (iv 1)),
 o1 7 (.mv (tm 101))]
def xa:List SOp :=
 [o1 102 (.mv (tm 5)),
 o1 103 (.b2s (tm 102)),
 o1 104 (.mv (tm 0)),
 o1 105 (.mv (tm 7)),
 o1 106 (.slS (tm 104) (some (tm 105)) none),
 o1 107 (.mv (tm 6)),
 o1 108 (.un .not (tm 107)),
 o1 2 (.mv (tm 103)),
 o1 3 (.mv (tm 106)),
 o1 4 (.mv (tm 108))]
def yn:aK:=⟨109,(.seq (.sreg zt [])
 (.seq (.sreg zs [])
 (.seq (.sreg zr [])
 (.seq (.sreg zq [])
 (.seq (.block 0 (.loop (.seq (.seq (.sreg zp [true,false,false,false,false,false,false,false])
 (.cond (tm 26) .skip
 (.exit 0)))
 (.block 1 (.seq (.sreg zo [true,false,false,false])
 (.seq (.sreg zn [true,false,false])
 (.seq (.block 2 (.seq (.sreg zm [true,false,false])
 (.cond (tm 32) (.seq (.sreg zl [true,false,false,false,false,false])
 (.cond (tm 54) (.seq (.sreg zk [])
 .ret)
 .skip))
 (.seq (.sreg xn [true,false,false,false,false,false,false,false])
 (.cond (tm 55) (.seq (.sreg xm [true,false,false])
 (.sreg xl [true,false,false,false]))
 (.seq (.sreg xk [true,false,false,false,false,false])
 (.cond (tm 74) (.seq (.sreg xj [true,true,false,false,false,false,false,false,false,false,false,false])
 (.seq (.seq (.sreg xi [true,false])
 (.cond (tm 91) (.seq (.sreg xh [])
 .ret)
 .skip))
 (.seq (.sreg xg [true,false,false])
 (.sreg xf [true,false,false]))))
 (.seq (.sreg xe [])
 .ret))))))))
 (.seq (.sreg xc [true,false,false,false,false])
 (.sreg xb [true,false,false])))))))))
 (.seq (.sdreg xa [.pure,(.read 0 0),.pure,.pure,(.read 0 0),.pure,.pure,.pure,.pure] [true,true,true,false,false,false,false,false,false,false])
 .ret)))))),[(.tmp 2),(.tmp 3),(.tmp 4)]⟩
attribute [push_cast] zt zs zr zq zp zo zn zm zl zk xn xm xl xk xj xi xh xg xf xe xc xb xa
theorem DL:aQ Tryz.prog (fun _ _=>1) 77=some yn.raw:=by kernel_rfl
def Ai:List SOp :=
 [o1 2 (.mv (.av (.sl [] 0 (some 0)))),
 o1 3 (.mv (iv 0))]
def Ah:List SOp :=
 [o1 10 (.mv (tm 0)),
 o1 11 (.len true (tm 10)),
 o1 12 (.bin .gtr (tm 11) (iv 4096))]
def Ag:List SOp :=
 [o1 2 (.mv (.av (.sl [] 0 (some 0)))),
 o1 3 (.mv (iv 5))]
def Af:List SOp :=
 [o1 13 (.mv (tm 0)),
 o1 14 (.bin .eql (tm 13) (.av (.str [])))]
def Ae:List SOp :=
 [o1 2 (.mv (.av (.sl [] 0 (some 0)))),
 o1 3 (.mv (iv 0))]
def Ad:List SOp :=
 [o1 4 (.mv (.av (.sl [] 0 (some 0))))]
def Ac:List SOp :=
 [o1 5 (.mv (.av (.sl [] 0 (some 0))))]
def Ab:List SOp :=
 [o1 15 (.mv (tm 4)),
 o1 16 (.len false (tm 15)),
 o1 17 (.bin .eql (tm 16) (iv 32)),
 o1 18 (.mv (tm 17)),
 .grp none 18 false
 [og 19 18 false (.mv (tm 5)),
 og 20 18 false (.len false (tm 19)),
 og 21 18 false (.bin .eql (tm 20) (iv 8))]
 22 (tm 21)]
def Aa:List SOp :=
 [o1 2 (.mv (.av (.sl [] 0 (some 0)))),
 o1 3 (.mv (iv 9))]
def z8:List SOp :=
 [o1 24 (.mv (tm 0)),
 o1 25 (.call 76 [(tm 24),(.av (.str [61]))]),
 o1 23 (.mv (tm 25)),
 o1 26 (.extract (tm 23) 0),
 o1 27 (.extract (tm 23) 1),
 o1 28 (.extract (tm 23) 2),
 o1 6 (.mv (tm 26)),
 o1 7 (.mv (tm 27)),
 o1 8 (.mv (tm 28))]
def x3:List SOp :=
 [o1 29 (.mv (tm 8)),
 o1 30 (.un .not (tm 29)),
 o1 31 (.mv (tm 30)),
 .grp none 31 false
 [og 32 31 false (.mv (tm 6)),
 og 33 31 false (.call 62 [(tm 32)]),
 og 34 31 false (.un .not (tm 33))]
 35 (tm 34)]
def xZ:List SOp :=
 [o1 2 (.mv (.av (.sl [] 0 (some 0)))),
 o1 3 (.mv (iv 4))]
def xY:List SOp :=
 [o1 36 (.mv (tm 5)),
 o1 37 (.mv (tm 6)),
 o1 38 (.call 63 [(tm 36),(tm 37)])]
def xX:List SOp :=
 [o1 2 (.mv (.av (.sl [] 0 (some 0)))),
 o1 3 (.mv (iv 21))]
def xW:List SOp :=
 [o1 40 (.mv (tm 7)),
 o1 41 (.call 77 [(tm 40)]),
 o1 39 (.mv (tm 41)),
 o1 42 (.extract (tm 39) 0),
 o1 43 (.extract (tm 39) 1),
 o1 44 (.extract (tm 39) 2),
 o1 9 (.mv (tm 42)),
 o1 7 (.mv (tm 43)),
 o1 8 (.mv (tm 44))]
def xV:List SOp :=
 [o1 45 (.mv (tm 8)),
 o1 46 (.un .not (tm 45))]
def xU:List SOp :=
 [o1 2 (.mv (.av (.sl [] 0 (some 0)))),
 o1 3 (.mv (iv 4))]
def xT:List SOp :=
 [o1 47 (.mv (tm 5)),
 o1 48 (.mv (tm 6)),
 o1 49 (.mv (tm 9)),
 o1 50 (.build [(.str []),(.str [])] [(0,(1,(tm 48))),(1,(1,(tm 49)))]),
 o1 51 (.bslice false 2 1 [(.str []),(.str [])] [(0,(2,(tm 50)))]),
 o1 52 (.app 1 2 32 [(.str []),(.str [])] (tm 47) (tm 51)),
 o1 5 (.mv (tm 52))]
def xS:List SOp :=
 [o1 53 (.mv (tm 7)),
 o1 54 (.bin .eql (tm 53) (.av (.str [])))]
def xR:List SOp :=
 [o1 55 (.mv (tm 4)),
 o1 56 (.mv (tm 5)),
 o1 57 (.bslice false 1 1 [(.sl [] 0 (some 0))] [(0,(1,(tm 56)))]),
 o1 58 (.app 1 1 24 [(.sl [] 0 (some 0))] (tm 55) (tm 57)),
 o1 2 (.mv (tm 58)),
 o1 3 (.mv (iv 0))]
def xQ:List SOp :=
 [o1 59 (.mv (tm 7)),
 o1 60 (.idxS (tm 59) (iv 0)),
 o1 61 (.bin .eql (tm 60) (.av (.int .u8 44)))]
def xP:List SOp :=
 [o1 62 (.mv (tm 4)),
 o1 63 (.mv (tm 5)),
 o1 64 (.bslice false 1 1 [(.sl [] 0 (some 0))] [(0,(1,(tm 63)))]),
 o1 65 (.app 1 1 24 [(.sl [] 0 (some 0))] (tm 62) (tm 64)),
 o1 4 (.mv (tm 65)),
 o1 5 (.mv (.av (.sl [] 0 (some 0))))]
def xO:List SOp :=
 [o1 66 (.mv (tm 7)),
 o1 67 (.slS (tm 66) (some (iv 1)) none),
 o1 0 (.mv (tm 67))]
def yr:aK:=⟨68,(.seq (.sreg Ai [])
 (.seq (.seq (.sreg Ah [true,false,false])
 (.cond (tm 12) (.seq (.sreg Ag [])
 .ret)
 .skip))
 (.seq (.seq (.sreg Af [true,false])
 (.cond (tm 14) (.seq (.sreg Ae [])
 .ret)
 .skip))
 (.seq (.sreg Ad [])
 (.seq (.sreg Ac [])
 (.block 0 (.loop (.block 1 (.seq (.seq (.sreg Ab [true,false,false,false,false])
 (.cond (tm 22) (.seq (.sreg Aa [])
 .ret)
 .skip))
 (.seq (.sreg z8 [true,true,true,false,false,false,false,false,false])
 (.seq (.seq (.sreg x3 [true,false,false,false])
 (.cond (tm 35) (.seq (.sreg xZ [])
 .ret)
 .skip))
 (.seq (.seq (.sreg xY [true,false,false])
 (.cond (tm 38) (.seq (.sreg xX [])
 .ret)
 .skip))
 (.seq (.sreg xW [true,true,true,false,false,false,false,false,false])
 (.seq (.seq (.sreg xV [true,false])
 (.cond (tm 46) (.seq (.sreg xU [])
 .ret)
 .skip))
 (.seq (.sreg xT [true,false,false,false,false,false,false])
 (.seq (.seq (.sreg xS [true,false])
 (.cond (tm 54) (.seq (.sreg xR [true,true,false,false,false,false])
 .ret)
 .skip))
 (.seq (.seq (.sreg xQ [true,false,false])
 (.cond (tm 61) (.sreg xP [true,true,false,false,false,false])
 .skip))
 (.sreg xO [true,false,false])))))))))))))))))),[(.tmp 2),(.tmp 3)]⟩
attribute [push_cast] Ai Ah Ag Af Ae Ad Ac Ab Aa z8 x3 xZ xY xX xW xV xU xT xS xR xQ xP xO
theorem DP:aQ Tryz.prog (fun _ _=>1) 52=some yr.raw:=by kernel_rfl
def uL:List SOp :=
 [o1 2 (.mv (.av (.str [])))]
def uK:List SOp :=
 [o1 3 (.mv (.av (.sl [] 0 (some 0))))]
def uJ:List SOp :=
 [o1 7 (.mv (tm 0)),
 o1 8 (.s2b (tm 7)),
 o1 9 (.len false (tm 8)),
 o1 10 (.mv (iv 0))]
def uI:List SOp :=
 [o1 11 (.bin .lss (tm 10) (tm 9))]
def uH:List SOp :=
 [o1 12 (.mv (tm 10)),
 o1 13 (.iaddr 1 (tm 8) (tm 10)),
 o1 14 (.load false 1 (tm 13)),
 o1 4 (.mv (tm 12)),
 o1 5 (.mv (tm 14))]
def uG:List SOp :=
 [o1 15 (.mv (tm 4)),
 o1 16 (.bin .eql (tm 15) (iv 0)),
 o1 17 (.mv (tm 16)),
 .grp none 17 true
 [og 18 17 true (.mv (tm 5)),
 og 19 17 true (.bin .eql (tm 18) (.av (.int .u8 32))),
 og 20 17 true (.mv (tm 19)),
 .grp (some (17,true)) 20 false
 [og 21 20 false (.mv (tm 5)),
 og 22 20 false (.bin .eql (tm 21) (.av (.int .u8 35)))]
 23 (tm 22)]
 24 (tm 23),
 o1 25 (.mv (tm 24)),
 .grp none 25 false
 [og 26 25 false (.mv (tm 4)),
 og 27 25 false (.mv (tm 0)),
 og 28 25 false (.len true (tm 27)),
 og 29 25 false (.bin .sub (tm 28) (iv 1)),
 og 30 25 false (.bin .eql (tm 26) (tm 29)),
 og 31 25 false (.mv (tm 30)),
 .grp (some (25,false)) 31 true
 [og 32 31 true (.mv (tm 5)),
 og 33 31 true (.bin .eql (tm 32) (.av (.int .u8 32)))]
 34 (tm 33)]
 35 (tm 34),
 o1 6 (.mv (tm 35))]
def uF:List SOp :=
 [o1 37 (.mv (tm 5)),
 o1 38 (.bin .eql (tm 37) (.av (.int .u8 0))),
 o1 36 (.mv (tm 38))]
def uE:List SOp :=
 [o1 39 (.mv (tm 3)),
 o1 40 (.app 1 1 1 [(.int .u8 0)] (tm 39) (.av (.str [92,48,48]))),
 o1 3 (.mv (tm 40))]
def uD:List SOp :=
 [o1 42 (.mv (tm 6)),
 o1 43 (.mv (tm 42)),
 .grp none 43 false
 [og 44 43 false (.mv (tm 5)),
 og 45 43 false (.call 93 [(.av (.str [34,43,44,59,60,62,92])),(tm 44)]),
 og 46 43 false (.bin .geq (tm 45) (iv 0))]
 47 (tm 46),
 o1 41 (.mv (tm 47))]
def uC:List SOp :=
 [o1 48 (.mv (tm 3)),
 o1 49 (.bslice false 1 1 [(.int .u8 0)] [(0,(1,(.av (.int .u8 92))))]),
 o1 50 (.app 1 1 1 [(.int .u8 0)] (tm 48) (tm 49)),
 o1 3 (.mv (tm 50))]
def rk:List SOp :=
 [o1 51 (.mv (tm 3)),
 o1 52 (.mv (tm 5)),
 o1 53 (.bslice false 1 1 [(.int .u8 0)] [(0,(1,(tm 52)))]),
 o1 54 (.app 1 1 1 [(.int .u8 0)] (tm 51) (tm 53)),
 o1 3 (.mv (tm 54))]
def rj:List SOp :=
 [o1 55 (.bin .add (tm 10) (iv 1)),
 o1 10 (.mv (tm 55))]
def ri:List SOp :=
 [o1 56 (.mv (tm 3)),
 o1 57 (.b2s (tm 56)),
 o1 2 (.mv (tm 57))]
def nC:aK:=⟨58,(.seq (.sreg uL [])
 (.seq (.sreg uK [])
 (.seq (.seq (.sreg uJ [true,true,true,false])
 (.block 0 (.loop (.seq (.sreg uI [])
 (.seq (.cond (tm 11) .skip
 (.exit 0))
 (.seq (.block 1 (.seq (.sreg uH [true,true,false,false,false])
 (.seq (.sreg uG [true,false,false,false,false,false,false])
 (.seq (.block 2 (.seq (.sreg uF [true,false,false])
 (.cond (tm 36) (.seq (.sreg uE [true,false,false])
 (.exit 1))
 (.seq (.sreg uD [true,false,false,false])
 (.cond (tm 41) (.sreg uC [true,false,false,false])
 .skip)))))
 (.sreg rk [true,false,false,false,false])))))
 (.sreg rj [true,false])))))))
 (.seq (.sreg ri [true,false,false])
 .ret)))),[(.tmp 2)]⟩
attribute [push_cast] uL uK uJ uI uH uG uF uE uD uC rk rj ri
theorem Cm:aQ Tryz.prog (fun _ _=>1) 66=some nC.raw:=by kernel_rfl
def zP:List SOp :=
 [o1 2 (.mv (iv 0))]
def zO:List SOp :=
 [o1 7 (.mv (tm 0)),
 o1 8 (.len false (tm 7)),
 o1 9 (.mv (iv 0))]
def zN:List SOp :=
 [o1 10 (.bin .lss (tm 9) (tm 8))]
def zM:List SOp :=
 [o1 11 (.mv (tm 9)),
 o1 12 (.iaddr 1 (tm 7) (tm 9)),
 o1 13 (.load false 1 (tm 12)),
 o1 3 (.mv (tm 11)),
 o1 4 (.mv (tm 13))]
def zL:List SOp :=
 [o1 15 (.mv (tm 3)),
 o1 16 (.bin .eql (tm 15) (iv 32)),
 o1 14 (.mv (tm 16))]
def zK:List SOp :=
 [o1 2 (.mv (iv 9))]
def zJ:List SOp :=
 [o1 18 (.mv (tm 4)),
 o1 19 (.len false (tm 18)),
 o1 20 (.bin .eql (tm 19) (iv 0)),
 o1 17 (.mv (tm 20))]
def zI:List SOp :=
 [o1 2 (.mv (iv 2))]
def zH:List SOp :=
 [o1 21 (.mv (tm 4)),
 o1 22 (.len false (tm 21)),
 o1 23 (.mv (iv 0))]
def zG:List SOp :=
 [o1 24 (.bin .lss (tm 23) (tm 22))]
def xD:List SOp :=
 [o1 25 (.mv (tm 23)),
 o1 26 (.iaddr 2 (tm 21) (tm 23)),
 o1 27 (.load true 2 (tm 26)),
 o1 6 (.alloc [(.str []),(.str [])]),
 o1 5 (.mv (tm 25)),
 o0 (.store 2 (tm 6) (tm 27))]
def xC:List SOp :=
 [o1 29 (.mv (tm 5)),
 o1 30 (.bin .eql (tm 29) (iv 8)),
 o1 28 (.mv (tm 30))]
def xB:List SOp :=
 [o1 2 (.mv (iv 9))]
def xA:List SOp :=
 [o1 32 (.faddr 0 (tm 6)),
 o1 33 (.load false 1 (tm 32)),
 o1 34 (.call 62 [(tm 33)]),
 o1 35 (.un .not (tm 34)),
 o1 31 (.mv (tm 35))]
def xz:List SOp :=
 [o1 2 (.mv (iv 20))]
def xy:List SOp :=
 [o1 37 (.mv (tm 4)),
 o1 38 (.mv (tm 5)),
 o1 39 (.slV 2 (tm 37) none (some (tm 38)) none),
 o1 40 (.faddr 0 (tm 6)),
 o1 41 (.load false 1 (tm 40)),
 o1 42 (.call 63 [(tm 39),(tm 41)]),
 o1 36 (.mv (tm 42))]
def xx:List SOp :=
 [o1 2 (.mv (iv 21))]
def xw:List SOp :=
 [o1 43 (.bin .add (tm 23) (iv 1)),
 o1 23 (.mv (tm 43))]
def xv:List SOp :=
 [o1 44 (.bin .add (tm 9) (iv 1)),
 o1 9 (.mv (tm 44))]
def xu:List SOp :=
 [o1 2 (.mv (iv 0))]
def yp:aK:=⟨45,(.seq (.sreg zP [])
 (.seq (.seq (.sreg zO [])
 (.block 0 (.loop (.seq (.sreg zN [])
 (.seq (.cond (tm 10) .skip
 (.exit 0))
 (.seq (.block 1 (.seq (.sreg zM [true,true,false,false,false])
 (.seq (.block 2 (.seq (.sreg zL [true,false,false])
 (.cond (tm 14) (.seq (.sreg zK [])
 .ret)
 (.seq (.sreg zJ [true,false,false,false])
 (.cond (tm 17) (.seq (.sreg zI [])
 .ret)
 .skip)))))
 (.seq (.sreg zH [])
 (.block 3 (.loop (.seq (.sreg zG [])
 (.seq (.cond (tm 24) .skip
 (.exit 3))
 (.seq (.block 4 (.seq (.sreg xD [true,true,false,false,false])
 (.block 5 (.seq (.sreg xC [true,false,false])
 (.cond (tm 28) (.seq (.sreg xB [])
 .ret)
 (.seq (.sreg xA [true,false,false,false,false])
 (.cond (tm 31) (.seq (.sreg xz [])
 .ret)
 (.seq (.sdreg xy [.pure,.pure,(.read 0 0),.pure,(.read 0 0)] [true,false,false,false,false,false,false])
 (.cond (tm 36) (.seq (.sreg xx [])
 .ret)
 .skip)))))))))
 (.sreg xw [true,false]))))))))))
 (.sreg xv [true,false])))))))
 (.seq (.sreg xu [])
 .ret))),[(.tmp 2)]⟩
attribute [push_cast] zP zO zN zM zL zK zJ zI zH zG xD xC xB xA xz xy xx xw xv xu
theorem DN:aQ Tryz.prog (fun _ _=>1) 41=some yp.raw:=by kernel_rfl
def zZ:List SOp :=
 [o1 2 (.mv (.av (.str []))),
 o1 3 (.mv (iv 0))]
def zY:List SOp :=
 [o1 11 (.mv (tm 0)),
 o1 12 (.call 41 [(tm 11)]),
 o1 4 (.mv (tm 12))]
def zX:List SOp :=
 [o1 13 (.mv (tm 4)),
 o1 14 (.bin .neq (tm 13) (iv 0))]
def zW:List SOp :=
 [o1 15 (.mv (tm 4)),
 o1 2 (.mv (.av (.str []))),
 o1 3 (.mv (tm 15))]
def zV:List SOp :=
 [o1 5 (.mv (iv 0))]
def zU:List SOp :=
 [o1 16 (.mv (tm 0)),
 o1 17 (.len false (tm 16)),
 o1 18 (.mv (iv 0))]
def zT:List SOp :=
 [o1 19 (.bin .lss (tm 18) (tm 17))]
def zS:List SOp :=
 [o1 20 (.iaddr 1 (tm 16) (tm 18)),
 o1 21 (.load false 1 (tm 20)),
 o1 7 (.mv (tm 21))]
def zR:List SOp :=
 [o1 22 (.mv (tm 7)),
 o1 23 (.len false (tm 22)),
 o1 24 (.mv (iv 0))]
def zQ:List SOp :=
 [o1 25 (.bin .lss (tm 24) (tm 23))]
def xN:List SOp :=
 [o1 26 (.iaddr 2 (tm 22) (tm 24)),
 o1 27 (.load true 2 (tm 26)),
 o1 9 (.alloc [(.str []),(.str [])]),
 o0 (.store 2 (tm 9) (tm 27))]
def xM:List SOp :=
 [o1 28 (.faddr 1 (tm 9)),
 o1 29 (.load false 1 (tm 28)),
 o1 30 (.len true (tm 29)),
 o1 31 (.bin .gtr (tm 30) (iv 4096))]
def xL:List SOp :=
 [o1 2 (.mv (.av (.str []))),
 o1 3 (.mv (iv 5))]
def xK:List SOp :=
 [o1 32 (.mv (tm 5)),
 o1 33 (.bin .add (tm 32) (iv 1)),
 o1 5 (.mv (tm 33))]
def xJ:List SOp :=
 [o1 34 (.bin .add (tm 24) (iv 1)),
 o1 24 (.mv (tm 34))]
def xI:List SOp :=
 [o1 35 (.bin .add (tm 18) (iv 1)),
 o1 18 (.mv (tm 35))]
def xH:List SOp :=
 [o1 36 (.mv (tm 0)),
 o1 37 (.call 42 [(tm 36),(.av (.bool false))]),
 o1 10 (.mv (tm 37))]
def xG:List SOp :=
 [o1 38 (.mv (tm 10)),
 o1 39 (.len true (tm 38)),
 o1 40 (.bin .gtr (tm 39) (iv 4096))]
def xF:List SOp :=
 [o1 2 (.mv (.av (.str []))),
 o1 3 (.mv (iv 5))]
def xE:List SOp :=
 [o1 41 (.mv (tm 10)),
 o1 2 (.mv (tm 41)),
 o1 3 (.mv (iv 0))]
def yq:aK:=⟨42,(.seq (.sreg zZ [])
 (.seq (.seq (.sreg zY [true,false,false])
 (.seq (.sreg zX [true,false])
 (.cond (tm 14) (.seq (.sreg zW [true,true,false])
 .ret)
 .skip)))
 (.seq (.sreg zV [])
 (.seq (.seq (.sreg zU [])
 (.block 0 (.loop (.seq (.sreg zT [])
 (.seq (.cond (tm 19) .skip
 (.exit 0))
 (.seq (.block 1 (.seq (.sreg zS [true,false,false])
 (.seq (.sreg zR [])
 (.block 2 (.loop (.seq (.sreg zQ [])
 (.seq (.cond (tm 25) .skip
 (.exit 2))
 (.seq (.block 3 (.seq (.sreg xN [true,false,false])
 (.seq (.seq (.sreg xM [true,false,false,false])
 (.cond (tm 31) (.seq (.sreg xL [])
 .ret)
 .skip))
 (.sreg xK [true,false,false]))))
 (.sreg xJ [true,false])))))))))
 (.sreg xI [true,false])))))))
 (.seq (.sreg xH [true,false,false])
 (.seq (.seq (.sreg xG [true,false,false])
 (.cond (tm 40) (.seq (.sreg xF [])
 .ret)
 .skip))
 (.seq (.sreg xE [true,true,false])
 .ret))))))),[(.tmp 2),(.tmp 3)]⟩
attribute [push_cast] zZ zY zX zW zV zU zT zS zR zQ xN xM xL xK xJ xI xH xG xF xE
theorem DO:aQ Tryz.prog (fun _ _=>1) 20=some yq.raw:=by kernel_rfl
def BO:List SOp :=
 [o1 2 (.mv (.av (.str []))),
 o1 3 (.mv (iv 0))]
def BN:List SOp :=
 [o1 7 (.mv (tm 0)),
 o1 8 (.call 20 [(tm 7)]),
 o1 6 (.mv (tm 8)),
 o1 9 (.extract (tm 6) 0),
 o1 10 (.extract (tm 6) 1),
 o1 4 (.mv (tm 9)),
 o1 5 (.mv (tm 10))]
def BM:List SOp :=
 [o1 11 (.mv (tm 5)),
 o1 12 (.bin .neq (tm 11) (iv 0))]
def BL:List SOp :=
 [o1 13 (.mv (tm 5)),
 o1 2 (.mv (.av (.str []))),
 o1 3 (.mv (tm 13))]
def BK:List SOp :=
 [o1 14 (.mv (tm 0)),
 o1 15 (.call 42 [(tm 14),(.av (.bool true))]),
 o1 2 (.mv (tm 15)),
 o1 3 (.mv (iv 0))]
def A3:aK:=⟨16,(.seq (.sreg BO [])
 (.seq (.seq (.sreg BN [true,false,false,false,false,false,false])
 (.seq (.sreg BM [true,false])
 (.cond (tm 12) (.seq (.sreg BL [true,true,false])
 .ret)
 .skip)))
 (.seq (.sreg BK [true,true,false,false])
 .ret))),[(.tmp 2),(.tmp 3)]⟩
attribute [push_cast] BO BN BM BL BK
theorem EY:aQ Tryz.prog (fun _ _=>1) 60=some A3.raw:=by kernel_rfl
def bD:List SOp :=
 [o1 4 (.mv (.av (.bool false)))]
def bC:List SOp :=
 [o1 5 (.mv (tm 0)),
 o1 6 (.mv (tm 1)),
 o1 7 (.call 112 [(tm 5),(tm 6)]),
 o1 8 (.bin .geq (tm 7) (iv 0)),
 o1 4 (.mv (tm 8))]
def bb:aK:=⟨9,(.seq (.sreg bD [])
 (.seq (.sreg bC [true,false,false,false,false])
 .ret)),[(.tmp 4)]⟩
attribute [push_cast] bD bC
theorem dv:aQ Tryz.prog (fun _ _=>1) 91=some bb.raw:=by kernel_rfl
def bT:List SOp :=
 [o1 4 (.mv (iv 0))]
def bS:List SOp :=
 [o1 6 (.mv (tm 0)),
 o1 7 (.len false (tm 6)),
 o1 8 (.mv (iv 0))]
def bR:List SOp :=
 [o1 9 (.bin .lss (tm 8) (tm 7))]
def bQ:List SOp :=
 [o1 10 (.mv (tm 8)),
 o1 5 (.mv (tm 10))]
def bP:List SOp :=
 [o1 11 (.mv (tm 1)),
 o1 12 (.mv (tm 0)),
 o1 13 (.mv (tm 5)),
 o1 14 (.iaddr 2 (tm 12) (tm 13)),
 o1 15 (.load true 2 (tm 14)),
 o1 16 (.callv (tm 11) [(tm 15)])]
def bO:List SOp :=
 [o1 17 (.mv (tm 5)),
 o1 4 (.mv (tm 17))]
def bN:List SOp :=
 [o1 18 (.bin .add (tm 8) (iv 1)),
 o1 8 (.mv (tm 18))]
def bM:List SOp :=
 [o1 4 (.mv (iv (-1)))]
def bn:aK:=⟨19,(.seq (.sreg bT [])
 (.seq (.seq (.sreg bS [true,true,false])
 (.block 0 (.loop (.seq (.sreg bR [])
 (.seq (.cond (tm 9) .skip
 (.exit 0))
 (.seq (.block 1 (.seq (.sreg bQ [true,false])
 (.seq (.sreg bP [true,false,false,false,false,false])
 (.cond (tm 16) (.seq (.sreg bO [true,false])
 .ret)
 .skip))))
 (.sreg bN [true,false])))))))
 (.seq (.sreg bM [])
 .ret))),[(.tmp 4)]⟩
attribute [push_cast] bT bS bR bQ bP bO bN bM
theorem dI:aQ Tryz.prog (fun _ _=>1) 112=some bn.raw:=by kernel_rfl
def nQ:List SOp :=
 [o1 4 (.mv (.av (.str []))),
 o1 5 (.mv (.av (.str []))),
 o1 6 (.mv (.av (.bool false)))]
def nP:List SOp :=
 [o1 7 (.mv (tm 0)),
 o1 8 (.mv (tm 1)),
 o1 9 (.call 100 [(tm 7),(tm 8)]),
 o1 10 (.extract (tm 9) 0),
 o1 11 (.extract (tm 9) 1),
 o1 12 (.extract (tm 9) 2),
 o1 4 (.mv (tm 10)),
 o1 5 (.mv (tm 11)),
 o1 6 (.mv (tm 12))]
def eJ:aK:=⟨13,(.seq (.sreg nQ [])
 (.seq (.sreg nP [true,true,true,false,false,false,false,false,false])
 .ret)),[(.tmp 4),(.tmp 5),(.tmp 6)]⟩
attribute [push_cast] nQ nP
theorem mX:aQ Tryz.prog (fun _ _=>1) 76=some eJ.raw:=by kernel_rfl
def dh:List SOp :=
 [o1 4 (.mv (.av (.str []))),
 o1 5 (.mv (.av (.str []))),
 o1 6 (.mv (.av (.bool false)))]
def dg:List SOp :=
 [o1 8 (.mv (tm 0)),
 o1 9 (.mv (tm 1)),
 o1 10 (.call 127 [(tm 8),(tm 9)]),
 o1 7 (.mv (tm 10))]
def df:List SOp :=
 [o1 11 (.mv (tm 7)),
 o1 12 (.bin .geq (tm 11) (iv 0))]
def de:List SOp :=
 [o1 13 (.mv (tm 0)),
 o1 14 (.mv (tm 7)),
 o1 15 (.slS (tm 13) none (some (tm 14))),
 o1 16 (.mv (tm 0)),
 o1 17 (.mv (tm 7)),
 o1 18 (.mv (tm 1)),
 o1 19 (.len true (tm 18)),
 o1 20 (.bin .add (tm 17) (tm 19)),
 o1 21 (.slS (tm 16) (some (tm 20)) none),
 o1 4 (.mv (tm 15)),
 o1 5 (.mv (tm 21)),
 o1 6 (.mv (.av (.bool true)))]
def dd:List SOp :=
 [o1 22 (.mv (tm 0)),
 o1 4 (.mv (tm 22)),
 o1 5 (.mv (.av (.str []))),
 o1 6 (.mv (.av (.bool false)))]
def a6:aK:=⟨23,(.seq (.sreg dh [])
 (.seq (.seq (.sreg dg [true,false,false,false])
 (.seq (.sreg df [true,false])
 (.cond (tm 12) (.seq (.sdreg de [.pure,.pure,(.read 0 0),.pure,.pure,.pure,(.read 0 0),.pure,(.read 0 0),.pure] [true,true,true,false,false,false,false,false,false,false,false,false])
 .ret)
 .skip)))
 (.seq (.sreg dd [true,true,true,false])
 .ret))),[(.tmp 4),(.tmp 5),(.tmp 6)]⟩
attribute [push_cast] dh dg df de dd
theorem da:aQ Tryz.prog (fun _ _=>1) 100=some a6.raw:=by kernel_rfl
set_option maxHeartbeats 8000000
set_option maxRecDepth 100000
theorem F6 {n:Int} (h0 : -2147483648≤n) (h1:n<2147483648):IntKind.i32.wrap n=n:=by
 simp only [IntKind.wrap,IntKind.bits,IntKind.signed]
 simp
 omega
theorem GV {s:List UInt8} {p:Nat} (h:p<s.length) (ha:(s.getD p 0).toNat<128):Dk s p=((s.getD p 0).toNat,1):=by
 have e:s.getD p 0=s[p]:=by simp [h]
 rw [e] at ha ⊢
 exact decode_ascii ⟨⟨s⟩⟩ p h ha
theorem Iw {s:List UInt8} {p:Nat} (h:p<s.length) (ha:128≤(s.getD p 0).toNat):128≤(Dk s p).1:=by
 have e:s.getD p 0=s[p]:=by simp [h]
 rw [e] at ha
 exact (decode_high ⟨⟨s⟩⟩ p h ha).1
def jT (x:Int):Bool:=(decide (97≤x) && decide (x≤122)) || (decide (65≤x) && decide (x≤90))
theorem gg {x:Int} {L:List Blk} {K:AV→List Blk→Prop} (h:K (.bool (jT x)) L):ad Tryz.prog 90 [.int .i32 x] L K:=by
 refine ac Dt (by simp [vc]) ?_
 simp only [vc,aj]
 refine wk ?_
 all_goals (first|refine aa rfl (Kto h ?_)|refine aq (Kto h ?_)|refine aa (by simp only [AV.refs,AV.refsL, *];rfl) (Kto h ?_)|refine ao (aa rfl (Kto h ?_))|(trace_state;fail))
 all_goals (first|(simp [jT, *];done)|(simp [jT, *];omega)|(simp [jT, *];intros;omega)|(simp_all [Hid,jT];done)|(simp_all [Hid,jT];omega))
def AD (x:Int):Bool:=jT x || (decide (48≤x) && decide (x≤57)) || decide (x=45)
def gl (s:List UInt8):Bool:=decide (1≤s.length) && decide (s.length≤32) && jT ((s.getD 0 0).toNat:Int) && s.all fun c=>AD (c.toNat:Int)
theorem DT {x:Int} (h:128≤x):AD x=false:=by
 simp only [AD,jT,Bool.or_eq_false_iff,Bool.and_eq_false_iff,decide_eq_false_iff_not]
 omega
theorem Ga {s:List UInt8} {L:List Blk} {K:AV→List Blk→Prop} (h:K (.bool (gl s)) L):ad Tryz.prog 62 [.str s] L K:=by
 have no:gl s=false→K (.bool false) L:=fun e=>by rw [← e];exact h
 replace no:=hid no
 replace h:=hid h
 refine ac EX (by simp [A2]) ?_
 simp only [A2,aj]
 by_cases h0:s=[]
 · subst h0
   refine wk ?_
   exact aq (no.out rfl)
 have hlen:0<s.length:=List.length_pos_iff.2 h0
 by_cases h1:(32:Int)<(s.length:Int)
 · refine wk ?_
   exact aq (no.out (by simp [gl];omega))
 obtain ⟨c0,hc0⟩:∃ c,s.getD 0 0=c:=⟨_,rfl⟩
 have hr:=c0.toNat_lt
 have w0:IntKind.i32.wrap (c0.toNat:Int)=(c0.toNat:Int):=F6 (by omega) (by omega)
 cases hl0:jT (c0.toNat:Int) with
 | false =>
   have kk1:=@hid _ @gg
   refine wk ?_
   refine aq (no.out ?_)
   simp only [gl,hc0,hl0,Bool.and_false,Bool.false_and]
 | true =>
   have kk1:=@hid _ @gg
   refine wk ?_
   refine ak (fun n T' L'=>∃ p,n=s.length - p∧p≤s.length∧Hid (∀ c∈s.take p,AD (c.toNat:Int)=true)∧T'=[(20,.ptr L.length 0)]∧L'=L++[.siter s p]) (CutS (b:=by simp)) ⟨0,rfl,Nat.zero_le _,hid (by simp),rfl,rfl⟩ ?_
   rintro _ _ _ ⟨p,rfl,hp,hall,rfl,rfl⟩
   by_cases hlt:p<s.length
   · obtain ⟨c,hc⟩:∃ c,s.getD p 0=c:=⟨_,rfl⟩
     have hmem:c∈s:=by rw [← hc];simp [hlt]
     have htk:s.take (p+1)=s.take p++[c]:=by rw [List.take_succ_eq_append_getElem hlt,← hc];simp [hlt]
     replace htk:=hid htk
     have bad:AD (c.toNat:Int)=false→K (.bool false) L:=fun e=>no.out (by
       have:(s.all fun c=>AD (c.toNat:Int))=false:=List.all_eq_false.2 ⟨c,hmem,by rw [e];simp⟩
       simp only [gl,this,Bool.and_false])
     replace bad:=hid bad
     by_cases ha:c.toNat<128
     · have hd:=GV hlt (by rw [hc];exact ha)
       rw [hc] at hd
       obtain ⟨x,hx⟩:∃ x:Nat,c.toNat=x:=⟨_,rfl⟩
       rw [hx] at hd bad
       have hx':=hid hx
       clear hx hc hmem ha hr w0
       cases hxl:jT (x:Int) with
       | true =>
         have kk1:=@hid _ @gg
         refine wk ?_
         refine an _ _ _ (by omega) (CutS (b:=by simp)) ⟨p+1,rfl,hlt,hid fun d hd'=>?_,rfl,rfl⟩
         rw [htk.out] at hd'
         rcases List.mem_append.1 hd' with h|h
         · exact hall.out d h
         · rw [List.mem_singleton.1 h,hx'.out,AD,hxl];rfl
       | false =>
         repeat' first
           | refine cc ?_
           | (first|refine bs (by kernel_rfl) ?_|refine aT (by kernel_rfl) ?_|refine aU ?_|refine dw ?_|refine bY (fun _=>?_)|refine aF ?_|refine bv ?_|refine gg ?_|refine bz (gg ⟨rfl,rfl⟩) (gg ⟨rfl,rfl⟩) ?_|refine aD (gg ⟨rfl,rfl⟩) ?_)
             refine sm ?_
           | (first|refine bo (by kernel_rfl) ?_|refine bt ?_|refine bu ?_|refine ce (aE ?_))
             refine sl ?_
           | exact bZ
           | first|apply b9|apply bp|apply ca|apply bq|apply cb|apply br
           | refine aX ?_
           | first|refine aV rfl ?_|refine aW rfl ?_|refine aA rfl ?_ ?_|refine ba rfl (fun _=>?_) (fun _=>?_)|refine a8 rfl (fun _=>?_) (fun _=>?_)
           | ((first|refine ay (fun _=>?_) (fun _=>?_)|refine aC (fun _=>?_) (fun _=>?_))<;>try refine sm ?_)
           | refine And.intro trivial ?_
           | refine And.intro (by omega) ?_
           | refine aY rfl (fun _=>?_) (fun _=>?_)
           | refine And.intro ?_ ?_
         · rename_i hb
           refine aa rfl (bad.out ?_)
           simp only [AD,hxl,Bool.false_or,Bool.or_eq_false_iff,Bool.and_eq_false_iff,decide_eq_false_iff_not]
           omega
         · rename_i hb
           refine an _ _ _ (by omega) (CutS (b:=by simp)) ⟨p+1,rfl,hlt,hid fun d hd'=>?_,rfl,rfl⟩
           rw [htk.out] at hd'
           rcases List.mem_append.1 hd' with h|h
           · exact hall.out d h
           · rw [List.mem_singleton.1 h,hx'.out]
             simp only [AD,hxl,Bool.false_or,Bool.or_eq_true,Bool.and_eq_true,decide_eq_true_eq]
             omega
     · have hh:=Iw hlt (by rw [hc];omega)
       obtain ⟨⟨x,wd⟩,hd⟩:∃ q,Dk s p=q:=⟨_,rfl⟩
       rw [hd] at hh
       simp only at hh
       have bad':=hid (bad.out (DT (show (128:Int)≤(c.toNat:Int) by omega)))
       have hxl:jT (x:Int)=false:=by
         have:=DT (show (128:Int)≤(x:Int) by omega)
         simp only [AD,Bool.or_eq_false_iff] at this
         exact this.1.1
       have f1:¬ (x:Int)<48:=by omega
       have f2:(57:Int)<(x:Int):=by omega
       have f3:¬ (x:Int)=45:=by omega
       clear hc hmem hr w0
       have kk1:=@hid _ @gg
       refine wk ?_
       exact aa rfl bad'.out
   · have hke:p=s.length:=by omega
     subst hke
     have h':=h.out
     have e:gl s=true:=by
       have e1:(s.all fun c=>AD (c.toNat:Int))=true:=List.all_eq_true.2 fun c hcm=>hall.out c (by rw [List.take_length];exact hcm)
       simp only [gl,e1,hc0,hl0,Bool.and_true]
       simp;omega
     rw [e] at h'
     replace h':=hid h'
     clear e
     refine wk ?_
     exact aa rfl h'.out
set_option maxHeartbeats 8000000
set_option maxRecDepth 100000
abbrev Ava:=List UInt8×List UInt8
def rp (a:Ava):List AV:=[.str a.1,.str a.2]
def a7 (r:List Ava):List AV:=r.flatMap rp
abbrev Gk (r:List Ava) (cap:Option Nat):AV:=.sl (a7 r) r.length cap
def gP (r:List Ava) (typ:List UInt8):Bool:=r.any fun a=>decide (ax a.1=ax typ)
theorem LW {a:Ava} {typ:List UInt8} {ip:Nat} (h1:(a.1.length:Int)≤100000) (h2:(typ.length:Int)≤100000) {L:List Blk} {K:AV→List Blk→Prop} (hL:L[ip]?=some (.cells [.str typ])) (h:K (.bool (decide (ax a.1=ax typ))) L) :
   ad Tryz.prog 92 [.agg (rp a),.ptr ip 0] L K:=by
 obtain ⟨t,v⟩:=a
 replace h:=hid h
 have hip:ip<L.length:=(List.getElem?_eq_some_iff.1 hL).1
 have g1:(L++[Blk.cells [.str t,.str v]])[ip]?=some (.cells [.str typ]):=by rw [List.getElem?_append_left hip];exact hL
 simp only [rp]
 refine ac DM (by simp [yo]) ?_
 simp only [yo,aj]
 have kk1:=@hid _ (fun L K=>uS h1 (L:=L) (K:=K))
 have kk2:=@hid _ (fun L K=>uS h2 (L:=L) (K:=K))
 refine wk ?_
 exact aa rfl h.out
theorem dp (r:List Ava):(a7 r).length=r.length * 2:=by
 induction r with
 | nil=>rfl
 | cons a r ih=>simp only [a7,List.flatMap_cons,List.length_append,rp,List.length_cons,List.length_nil] at ih ⊢;omega
theorem eM:∀ {r:List Ava} {k:Nat},k<r.length→((a7 r).drop (k * 2)).take 2=rp (r.getD k ([],[]))
 | a::r,0,_=>rfl
 | a::r,k+1,h=>by
   have ih:=@eM r k (by simpa using h)
   rw [show (k+1) * 2=k * 2+1+1 by omega]
   simpa [a7,rp] using ih
theorem JD {r:List Ava} {typ:List UInt8} {cap:Option Nat} {ip:Nat} (hn:r.length≤100000) (h1:∀ a∈r,(a.1.length:Int)≤100000) (h2:(typ.length:Int)≤100000) {L:List Blk} {K:AV→List Blk→Prop} (hL:L[ip]?=some (.cells [.str typ]))
   (hno:gP r typ=false→K (.int .i64 (-1)) L) (hyes:∀ k:Nat,gP r typ=true→K (.int .i64 k) L):ad Tryz.prog 112 [Gk r cap,.func 92 [.ptr ip 0]] L K:=by
 replace hno:=hid hno
 replace hyes:=hid hyes
 replace h1:=hid h1
 refine ac dI (by simp [bn]) ?_
 simp only [bn,aj]
 refine wk ?_
 refine ak (fun n T' L'=>∃ (k:Nat),n=r.length - k∧k≤r.length∧Hid (gP (r.take k) typ=false)∧T'=[(8,.int .i64 (k:Int)),(7,.int .i64 r.length),(0,Gk r cap),(1,.func 92 [.ptr ip 0])]∧L=L') (CutS (b:=Nat.le_refl _)) ⟨0,rfl,Nat.zero_le _,hid rfl,rfl,rfl⟩ ?_
 rintro _ _ _ ⟨k,rfl,hk,hf,rfl,rfl⟩
 by_cases hlt:k<r.length
 · have g1:(k:Int)<(r.length:Int):=by omega
   have g2:IntKind.i64.wrap ((k:Int)+1)=(k:Int)+1:=ab (by omega) (by omega)
   have e1:=eM hlt
   have e2:k * 2+2≤(a7 r).length:=by rw [dp];omega
   obtain ⟨a,ha⟩:∃ a,r.getD k ([],[])=a:=⟨_,rfl⟩
   have ham:a∈r:=by rw [← ha];simp [hlt]
   have htk:r.take (k+1)=r.take k++[a]:=by rw [List.take_succ_eq_append_getElem hlt,← ha];simp [hlt]
   rw [ha] at e1
   have hs:gP (r.take (k+1)) typ=decide (ax a.1=ax typ):=by
     have:=hf.out
     simp only [gP] at this ⊢
     rw [htk,List.any_append,this];simp
   have hall:decide (ax a.1=ax typ)=true→gP r typ=true:=fun e=>List.any_eq_true.2 ⟨a,ham,e⟩
   replace hall:=hid hall
   replace hs:=hid hs
   replace htk:=hid htk
   have ha1:=hid (h1.out a ham)
   clear ha ham
   refine wk ?_
   refine LW ha1.out h2 hL ?_
   refine sk ?_
   cases hd:decide (ax a.1=ax typ) with
   | true =>
     have hy:=hid (hyes.out k (hall.out hd))
     replace hd:=hid hd
     refine wk ?_
     exact aq hy.out
   | false =>
     replace hd:=hid hd
     refine wk ?_
     exact an _ _ _ (by omega) (CutS (b:=Nat.le_refl _)) ⟨k+1,rfl,hlt,hid (by rw [hs.out,hd.out]),rfl,rfl⟩
 · have hke:k=r.length:=by omega
   subst hke
   have g1:¬ (r.length:Int)<(r.length:Int):=by omega
   have hn':=hf.out
   rw [List.take_length] at hn'
   have hy:=hid (hno.out hn')
   clear hn'
   refine wk ?_
   exact aq hy.out
theorem FU {r:List Ava} {typ:List UInt8} {cap:Option Nat} {ip:Nat} (hn:r.length≤100000) (h1:∀ a∈r,(a.1.length:Int)≤100000) (h2:(typ.length:Int)≤100000) {L:List Blk} {K:AV→List Blk→Prop} (hL:L[ip]?=some (.cells [.str typ])) (h:K (.bool (gP r typ)) L) :
   ad Tryz.prog 91 [Gk r cap,.func 92 [.ptr ip 0]] L K:=by
 replace h:=hid h
 refine ac dv (by simp [bb]) ?_
 simp only [bb,aj]
 refine wk ?_
 refine JD hn h1 h2 hL (fun e=>?_) (fun k e=>?_)
 · have h':=h.out
   rw [e] at h'
   replace h':=hid h'
   refine sk ?_
   refine wk ?_
   exact aq h'.out
 · have h':=h.out
   rw [e] at h'
   replace h':=hid h'
   have g:(0:Int)≤(k:Int):=by omega
   refine sk ?_
   refine wk ?_
   exact aq h'.out
theorem Lp {r:List Ava} {typ:List UInt8} {cap:Option Nat} (hn:r.length≤100000) (h1:∀ a∈r,(a.1.length:Int)≤100000) (h2:(typ.length:Int)≤100000) {L:List Blk} {K:AV→List Blk→Prop} (h:K (.bool (gP r typ)) L) :
   ad Tryz.prog 63 [Gk r cap,.str typ] L K:=by
 replace h:=hid h
 refine ac FV (by simp [Du]) ?_
 simp only [Du,aj]
 refine wk ?_
 refine FU hn h1 h2 (by simp) ?_
 refine sk ?_
 refine wk ?_
 exact aa rfl h.out
set_option maxHeartbeats 8000000
set_option maxRecDepth 100000
theorem dj {a:List UInt8} {c:UInt8} {L:List Blk} {K:AV→List Blk→Prop} (h:K (.int .i64 (Lib.indexByte a c)) L):ad Tryz.prog 93 [.str a,.int .u8 c.toNat] L K :=
 iL Tryz.func93 rfl (by kernel_rfl) (fun w0 S0 E w vs hR hv=>by
   simp only [VRL,VR] at hv
   obtain ⟨_,_,rfl,rfl,_,_,rfl,rfl,rfl⟩:=hv
   exact (Tryz.strings_IndexByte ⟨⟨a⟩⟩ c.toNat w).mono fun e w' ⟨he,hw⟩=>⟨_,he,by simp [VR],by subst hw;exact E8.refl _⟩) h
theorem gS (a:List UInt8) (c:UInt8):(0≤Lib.indexByte a c)↔c∈a:=by
 induction a with
 | nil=>simp [Lib.indexByte]
 | cons b l ih =>
   have hge:=Lib.indexByte_ge l c
   unfold Lib.indexByte
   by_cases hb:b=c
   · simp [hb]
   · have e1:(b == c)=false:=by simpa using hb
     rw [e1]
     simp only [Bool.false_eq_true,if_false]
     have e2:c∈b::l↔c∈l:=by simp [Ne.symm hb]
     rw [e2,← ih]
     split
     · rename_i h;simp at h;omega
     · rename_i h;simp at h;omega
theorem aL (c d:UInt8):(c.toNat:Int)=(d.toNat:Int)↔c=d:=by
 constructor
 · intro h
   exact UInt8.toNat_inj.1 (by omega)
 · rintro rfl;rfl
def wrB (i n:Nat) (c:UInt8):List UInt8 :=
 if c=0 then [92,48,48] else if (i=0∧(c=32∨c=35))∨(i+1=n∧c=32)∨c∈[34,43,44,59,60,62,92] then [92,c] else [c]
def wrL (n:Nat):Nat→List UInt8→List UInt8
 | _,[]=>[]
 | i,c::s=>wrB i n c++wrL n (i+1) s
def ft (s:List UInt8):List UInt8:=wrL s.length 0 s
theorem Km (i n:Nat) (c:UInt8):(wrB i n c).length≤3:=by
 unfold wrB;split
 · simp
 · split<;>simp
theorem dk {s:List UInt8} (hs:s.length≤100000) {L:List Blk} {K:AV→List Blk→Prop} (h:K (.str (ft s)) L):ad Tryz.prog 66 [.str s] L K:=by
 replace h:=hid h
 have g0:IntKind.i64.wrap ((s.length:Int) - 1)=(s.length:Int) - 1:=ab (by omega) (by omega)
 refine ac Cm (by simp [nC]) ?_
 simp only [nC,aj]
 refine wk ?_
 refine cj (l:=[]) (n:=0) 3 1 rfl (Nat.zero_mul 1).symm ?_
 refine ak (fun n T' L'=>∃ (i m:Nat) (b:List UInt8),n=s.length - i∧i≤s.length∧m≤3 * i∧Hid (m=b.length∧b++wrL s.length i (s.drop i)=ft s)∧T'=[(10,.int .i64 (i:Int)),(9,.int .i64 s.length),(8,.sl (u8s s) s.length none),(3,.gsl (u8s b) m L.length 1),(0,.str s)]∧L'=L++[.spare m 1]) (CutS (b:=by simp)) ⟨0,0,[],rfl,Nat.zero_le _,by omega,hid ⟨rfl,rfl⟩,rfl,rfl⟩ ?_
 rintro _ _ _ ⟨i,m,b,rfl,hi,hm,hb,rfl,rfl⟩
 by_cases hlt:i<s.length
 · have g1:(i:Int)<(s.length:Int):=by omega
   have g2:IntKind.i64.wrap ((i:Int)+1)=(i:Int)+1:=ab (by omega) (by omega)
   obtain ⟨c,hc⟩:∃ c,s.getD i 0=c:=⟨_,rfl⟩
   have g3:(u8s s).getD i .undef=.int .u8 c.toNat:=by rw [← hc];simp [u8s,hlt]
   have hdr:s.drop i=c::s.drop (i+1):=by rw [List.drop_eq_getElem_cons hlt,← hc];simp [hlt]
   have hb2:=hb.out.2
   rw [hdr] at hb2
   simp only [wrL] at hb2
   have g4:=fT
   have g5:(u8s s).length=s.length:=by simp [u8s]
   clear hc hdr
   replace hb2:=hid hb2
   repeat' first
     | refine cc ?_
     | (first|refine bs (by kernel_rfl) ?_|refine aT (by kernel_rfl) ?_|refine aU ?_|refine dw ?_|refine bY (fun _=>?_)|refine aF ?_|refine bv ?_|refine dj ?_|refine bz (dj ⟨rfl,rfl⟩) (dj ⟨rfl,rfl⟩) ?_|refine aD (dj ⟨rfl,rfl⟩) ?_)
       refine sm ?_
     | (first|refine bo (by kernel_rfl) ?_|refine bt ?_|refine bu ?_|refine ce (aE ?_))
       refine sl ?_
     | exact bZ
     | first|apply b9|apply bp|apply ca|apply bq|apply cb|apply br
     | refine aX ?_
     | first|refine aV rfl ?_|refine aW rfl ?_|refine aA rfl ?_ ?_|refine ba rfl (fun _=>?_) (fun _=>?_)|refine a8 rfl (fun _=>?_) (fun _=>?_)
     | ((first|refine ay (fun _=>?_) (fun _=>?_)|refine aC (fun _=>?_) (fun _=>?_))<;>try refine sm ?_)
     | refine And.intro trivial ?_
     | refine And.intro (by omega) ?_
     | refine aY rfl (fun _=>?_) (fun _=>?_)
     | refine And.intro ?_ ?_
   · rfl
   · omega
   · rename_i h0
     have hc0:=(aL c 0).1 h0
     rw [show u8s b++AV.frzL (u8s [92,48,48])=u8s (b++[92,48,48]) by simp [u8s,AV.frzL,AV.frz]]
     refine an _ _ _ (by omega) (CutL (b:=by simp)) ⟨i+1,m+3,b++[92,48,48],rfl,hlt,by omega,hid ⟨by simp [hb.out.1],?_⟩,rfl,rfl⟩
     rw [← hb2.out,wrB,if_pos hc0,List.append_assoc]
   · rename_i h0 h1
     have hc0:¬ c=0:=fun e=>h0 ((aL c 0).2 e)
     have hq:(i=0∧(c=32∨c=35))∨(i+1=s.length∧c=32)∨c∈[34,43,44,59,60,62,92]:=by
       rcases h1 with (⟨e1,e2⟩|⟨e1,e2⟩)|e
       · exact .inl ⟨by omega,e2.imp (aL c 32).1 (aL c 35).1⟩
       · exact .inr (.inl ⟨by omega,(aL c 32).1 e2⟩)
       · exact .inr (.inr ((gS _ _).1 e))
     rw [show u8s b++[AV.int IntKind.u8 92,AV.int IntKind.u8 (c.toNat:Int)]=u8s (b++[92,c]) by simp [u8s]]
     refine an _ _ _ (by omega) (CutL (b:=by simp)) ⟨i+1,m+1+1,b++[92,c],rfl,hlt,by omega,hid ⟨by simp [hb.out.1],?_⟩,rfl,rfl⟩
     rw [← hb2.out,wrB,if_neg hc0,if_pos hq,List.append_assoc]
   · rename_i h0 h1
     have hc0:¬ c=0:=fun e=>h0 ((aL c 0).2 e)
     have hq:¬ ((i=0∧(c=32∨c=35))∨(i+1=s.length∧c=32)∨c∈[34,43,44,59,60,62,92]):=fun hq=>h1 (by
       rcases hq with ⟨e1,e2⟩|⟨e1,e2⟩|e
       · exact .inl (.inl ⟨by omega,e2.imp (aL c 32).2 (aL c 35).2⟩)
       · exact .inl (.inr ⟨by omega,(aL c 32).2 e2⟩)
       · exact .inr ((gS _ _).2 e))
     rw [show u8s b++[AV.int IntKind.u8 (c.toNat:Int)]=u8s (b++[c]) by simp [u8s]]
     refine an _ _ _ (by omega) (CutL (b:=by simp)) ⟨i+1,m+1,b++[c],rfl,hlt,by omega,hid ⟨by simp [hb.out.1],?_⟩,rfl,rfl⟩
     rw [← hb2.out,wrB,if_neg hc0,if_neg hq,List.append_assoc]
 · have hke:i=s.length:=by omega
   subst hke
   have g1:¬ (s.length:Int)<(s.length:Int):=by omega
   have e1:=fT b
   have e2:=eY b
   have e:=hb.out.2
   rw [List.drop_length,wrL,List.append_nil] at e
   have h':=h.out
   rw [← e] at h'
   replace h':=hid h'
   clear e
   refine wk ?_
   exact aa rfl h'.out
set_option maxHeartbeats 8000000
set_option maxRecDepth 100000
abbrev gU:List UInt8:=[34,43,44,59,60,62,92,32,35,61]
def dx:List UInt8→Bool→List UInt8→Option (List UInt8×List UInt8×Bool)
 | b,bl,[]=>some (b,[], !bl)
 | b,bl,c::s=>if c=44∨c=43 then some (b,c::s, !bl)
   else if c≠92 then (if c=0∨c∈([34,59,60,62]:List UInt8)∨(b=[]∧(c=32∨c=35)) then none else dx (b++[c]) (decide (c=32)) s)
   else match s with
     | []=>none
     | d::s1=>if d∈gU then dx (b++[d]) false s1 else match s1 with
       | []=>none
       | e::s2=>match Aq d e with
         | none=>none
         | some x=>dx (b++[x]) false s2
def HL (o:Option (List UInt8×List UInt8×Bool)):AV:=match o with
 | none=>.tup [.str [],.str [],.bool false]
 | some (v,r,f)=>.tup [.str v,.str r,.bool f]
theorem fX {b:List UInt8} {bl:Bool}:dx b bl []=some (b,[], !bl):=by rw [dx.eq_def]
theorem gR {b:List UInt8} {bl:Bool} {c:UInt8} {s:List UInt8} (h:c=44∨c=43):dx b bl (c::s)=some (b,c::s, !bl):=by rw [dx.eq_def];simp only [if_pos h]
theorem fG {b:List UInt8} {bl:Bool} {c:UInt8} {s:List UInt8} (h:¬ (c=44∨c=43)) (h2:c≠92):dx b bl (c::s)=if c=0∨c∈([34,59,60,62]:List UInt8)∨(b=[]∧(c=32∨c=35)) then none else dx (b++[c]) (decide (c=32)) s:=by
 rw [dx.eq_def];simp only [if_neg h,if_pos h2]
theorem vl {b:List UInt8} {bl:Bool}:dx b bl [92]=none:=by rw [dx.eq_def];rfl
theorem kb {b:List UInt8} {bl:Bool} {d:UInt8} {s:List UInt8} (h:d∈gU):dx b bl (92::d::s)=dx (b++[d]) false s:=by
 rw [dx.eq_def]
 simp only [show ¬ ((92:UInt8)=44∨(92:UInt8)=43) by decide,if_false,ne_eq,not_true_eq_false,if_pos h]
theorem vj {b:List UInt8} {bl:Bool} {d:UInt8} (h:¬ d∈gU):dx b bl [92,d]=none:=by
 rw [dx.eq_def]
 simp only [show ¬ ((92:UInt8)=44∨(92:UInt8)=43) by decide,if_false,ne_eq,not_true_eq_false,if_neg h]
theorem rq {b:List UInt8} {bl:Bool} {d e:UInt8} {s:List UInt8} (h:¬ d∈gU):dx b bl (92::d::e::s)=match Aq d e with|none=>none|some x=>dx (b++[x]) false s:=by
 rw [dx.eq_def]
 simp only [show ¬ ((92:UInt8)=44∨(92:UInt8)=43) by decide,if_false,ne_eq,not_true_eq_false,if_neg h]
theorem uU {s:List UInt8} {i:Nat} (h:i<s.length):s.drop i=s.getD i 0::s.drop (i+1):=by
 rw [List.drop_eq_getElem_cons h];simp [h]
theorem Ko {s:List UInt8} (hs:s.length≤100000) {L:List Blk} {K:AV→List Blk→Prop} (h:K (HL (dx [] false s)) L):ad Tryz.prog 77 [.str s] L K:=by
 replace h:=hid h
 refine ac DL (by simp [yn]) ?_
 simp only [yn,aj]
 refine wk ?_
 refine cj (l:=[]) (n:=0) 5 1 rfl (Nat.zero_mul 1).symm ?_
 refine ak (fun n T' L'=>∃ (i m:Nat) (b:List UInt8) (bl:Bool),n=s.length - i∧i≤s.length∧m≤i∧Hid (m=b.length∧dx b bl (s.drop i)=dx [] false s)∧T'=[(7,.int .i64 (i:Int)),(6,.bool bl),(5,.gsl (u8s b) m L.length 1),(0,.str s)]∧L'=L++[.spare m 1]) (CutS (b:=by simp)) ⟨0,0,[],false,rfl,Nat.zero_le _,by omega,hid ⟨rfl,rfl⟩,rfl,rfl⟩ ?_
 rintro _ _ _ ⟨i,m,b,bl,rfl,hi,hm,hb,rfl,rfl⟩
 have e1:=fT b
 have e2:=eY b
 by_cases hlt:i<s.length
 · have g1:(i:Int)<(s.length:Int):=by omega
   have g2:IntKind.i64.wrap ((i:Int)+1)=(i:Int)+1:=ab (by omega) (by omega)
   obtain ⟨c,hc⟩:∃ c,s.getD i 0=c:=⟨_,rfl⟩
   have hdr:=uU hlt
   rw [hc] at hdr
   have hb2:=hb.out.2
   rw [hdr] at hb2
   have hds:(s.drop i).take (s.length - i)=s.drop i:=List.take_of_length_le (by simp)
   have hl1:(i:Int)≤(s.length:Int):=by omega
   by_cases hcc:c=44∨c=43
   · rw [gR hcc] at hb2
     have h':=h.out
     rw [← hb2] at h'
     simp only [HL] at h'
     rw [← hdr] at h'
     replace h':=hid h'
     have k1:((c.toNat:Int)=44)∨((c.toNat:Int)=43):=hcc.imp (aL c 44).2 (aL c 43).2
     clear hb2 hcc hdr
     rcases k1 with k1|k1
     · refine wk ?_
       exact aa rfl h'.out
     · refine wk ?_
       exact aa rfl h'.out
   · have k1:¬ (c.toNat:Int)=44:=fun e=>hcc (.inl ((aL c 44).1 e))
     have k2:¬ (c.toNat:Int)=43:=fun e=>hcc (.inr ((aL c 43).1 e))
     by_cases h92:c=92
     · subst h92
       have g3:IntKind.i64.wrap ((i:Int)+2)=(i:Int)+2:=ab (by omega) (by omega)
       have g4:IntKind.i64.wrap ((i:Int)+3)=(i:Int)+3:=ab (by omega) (by omega)
       have g5:IntKind.i64.wrap ((i:Int)+1+1)=(i:Int)+1+1:=ab (by omega) (by omega)
       have g6:IntKind.i64.wrap ((i:Int)+2+1)=(i:Int)+2+1:=ab (by omega) (by omega)
       have t1:((i:Int)+1).toNat=i+1:=by omega
       have t3:((i:Int)+3).toNat=i+3:=by omega
       by_cases h1:i+1<s.length
       · have f1:(i:Int)+1<(s.length:Int):=by omega
         obtain ⟨d,hd⟩:∃ d,s.getD (i+1) 0=d:=⟨_,rfl⟩
         have hdr1:=uU h1
         rw [hd] at hdr1
         rw [hdr1] at hb2
         by_cases hsp:d∈gU
         · rw [kb hsp] at hb2
           have f2:=(gS gU d).2 hsp
           clear hdr hdr1
           replace hb2:=hid hb2
           have kk1:=@hid _ @dj
           refine wk ?_
           rw [show u8s b++[AV.int IntKind.u8 (d.toNat:Int)]=u8s (b++[d]) by simp [u8s],show decide (((UInt8.toNat 92:Nat):Int)=32)=false from rfl]
           refine an _ _ _ (by omega) (CutL (b:=by simp)) ⟨i+1+1,m+1,b++[d],false,rfl,h1,by omega,hid ⟨by simp [hb.out.1],hb2.out⟩,rfl,rfl⟩
         · have f2:¬ 0≤Lib.indexByte gU d:=fun e=>hsp ((gS gU d).1 e)
           by_cases h2:i+2<s.length
           · have f3:(i:Int)+2<(s.length:Int):=by omega
             have f4:(i:Int)+1≤(i:Int)+3:=by omega
             have f5:(i:Int)+3≤(s.length:Int):=by omega
             have f6:(0:Int)≤(i:Int)+1:=by omega
             obtain ⟨e,he⟩:∃ e,s.getD (i+2) 0=e:=⟨_,rfl⟩
             have hdr2:=uU h2
             rw [he] at hdr2
             rw [hdr2,rq hsp] at hb2
             have hcut:(s.drop (i+1)).take (i+3 - (i+1))=[d,e]:=by
               rw [hdr1,hdr2,show i+3 - (i+1)=2 by omega];rfl
             clear hdr hdr1 hdr2
             replace hb2:=hid hb2
             have kk1:=@hid _ @dj
             refine wk ?_
             refine IV ?_
             rcases hx:Aq d e with _|x
             · rw [show yc d e=.tup [.str [],.bool false] by simp only [yc,hx]]
               have h':=h.out
               rw [← hb2.out,hx] at h'
               simp only [HL] at h'
               replace h':=hid h'
               clear hx
               refine sk ?_
               refine wk ?_
               exact aa rfl h'.out
             · rw [show yc d e=.tup [.str [x],.bool true] by simp only [yc,hx]]
               have hb3:=hb2.out
               rw [hx] at hb3
               simp only at hb3
               replace hb3:=hid hb3
               have q1:[x].getD 0 0=x:=rfl
               clear hx hb2
               refine sk ?_
               refine wk ?_
               rw [show u8s b++[AV.int IntKind.u8 (x.toNat:Int)]=u8s (b++[x]) by simp [u8s],show decide (((UInt8.toNat 92:Nat):Int)=32)=false from rfl]
               refine an _ _ _ (by omega) (CutL (b:=by simp)) ⟨i+2+1,m+1,b++[x],false,rfl,h2,by omega,hid ⟨by simp [hb.out.1],hb3.out⟩,rfl,rfl⟩
           · have f3:¬ (i:Int)+2<(s.length:Int):=by omega
             have hnil:s.drop (i+1+1)=[]:=List.drop_eq_nil_of_le (by omega)
             rw [hnil,vj hsp] at hb2
             have h':=h.out
             rw [← hb2] at h'
             replace h':=hid h'
             clear hdr hdr1 hb2
             have kk1:=@hid _ @dj
             refine wk ?_
             exact aa rfl h'.out
       · have f1:¬ (i:Int)+1<(s.length:Int):=by omega
         have f3:¬ (i:Int)+2<(s.length:Int):=by omega
         have hnil:s.drop (i+1)=[]:=List.drop_eq_nil_of_le (by omega)
         rw [hnil,vl] at hb2
         have h':=h.out
         rw [← hb2] at h'
         replace h':=hid h'
         clear hdr hb2
         have kk1:=@hid _ @dj
         refine wk ?_
         exact aa rfl h'.out
     · rw [fG hcc h92] at hb2
       have k3:¬ (c.toNat:Int)=92:=fun e=>h92 ((aL c 92).1 e)
       clear hdr
       replace hb2:=hid hb2
       repeat' first
         | refine cc ?_
         | (first|refine bs (by kernel_rfl) ?_|refine aT (by kernel_rfl) ?_|refine aU ?_|refine dw ?_|refine bY (fun _=>?_)|refine aF ?_|refine bv ?_|refine dj ?_|refine bz (dj ⟨rfl,rfl⟩) (dj ⟨rfl,rfl⟩) ?_|refine aD (dj ⟨rfl,rfl⟩) ?_)
           refine sm ?_
         | (first|refine bo (by kernel_rfl) ?_|refine bt ?_|refine bu ?_|refine ce (aE ?_))
           refine sl ?_
         | exact bZ
         | first|apply b9|apply bp|apply ca|apply bq|apply cb|apply br
         | refine aX ?_
         | first|refine aV rfl ?_|refine aW rfl ?_|refine aA rfl ?_ ?_|refine ba rfl (fun _=>?_) (fun _=>?_)|refine a8 rfl (fun _=>?_) (fun _=>?_)
         | ((first|refine ay (fun _=>?_) (fun _=>?_)|refine aC (fun _=>?_) (fun _=>?_))<;>try refine sm ?_)
         | refine And.intro trivial ?_
         | refine And.intro (by omega) ?_
         | refine aY rfl (fun _=>?_) (fun _=>?_)
         | refine And.intro ?_ ?_
       · rename_i hx
         have hbad:c=0∨c∈([34,59,60,62]:List UInt8)∨(b=[]∧(c=32∨c=35)):=by
           rcases hx with (e|e)|⟨e,e'⟩
           · exact .inl ((aL c 0).1 e)
           · exact .inr (.inl ((gS _ _).1 e))
           · refine .inr (.inr ⟨List.length_eq_zero_iff.1 ?_,e'.imp (aL c 32).1 (aL c 35).1⟩)
             have:=hb.out.1;omega
         have h':=h.out
         rw [← hb2.out,if_pos hbad] at h'
         exact aa rfl h'
       · rename_i hx
         have hbad:¬ (c=0∨c∈([34,59,60,62]:List UInt8)∨(b=[]∧(c=32∨c=35))):=fun e=>hx (by
           rcases e with e|e|⟨e,e'⟩
           · exact .inl (.inl ((aL c 0).2 e))
           · exact .inl (.inr ((gS _ _).2 e))
           · refine .inr ⟨?_,e'.imp (aL c 32).2 (aL c 35).2⟩
             have:=hb.out.1;rw [e] at this;simp at this;omega)
         have hc32:decide ((c.toNat:Int)=32)=decide (c=32):=by
           have:=aL c 32
           simp only [decide_eq_decide];exact this
         rw [show u8s b++[AV.int IntKind.u8 (c.toNat:Int)]=u8s (b++[c]) by simp [u8s],hc32]
         refine an _ _ _ (by omega) (CutL (b:=by simp)) ⟨i+1,m+1,b++[c],decide (c=32),rfl,hlt,by omega,hid ⟨by simp [hb.out.1],?_⟩,rfl,rfl⟩
         rw [← hb2.out,if_neg hbad]
 · have hke:i=s.length:=by omega
   subst hke
   have g1:¬ (s.length:Int)<(s.length:Int):=by omega
   have h':=h.out
   rw [← hb.out.2,List.drop_length,fX] at h'
   simp only [HL] at h'
   replace h':=hid h'
   have hds:(s.drop s.length).take (s.length - s.length)=[]:=by simp
   refine wk ?_
   exact aa rfl h'.out
set_option maxHeartbeats 8000000
set_option maxRecDepth 100000
def fj:List UInt8→Option (List UInt8×List UInt8)
 | []=>none
 | c::s=>if c=61 then some ([],s) else match fj s with
   | none=>none
   | some (a,b)=>some (c::a,b)
theorem Dm:∀ s:List UInt8,(Lib.indexByte s 61=-1∧fj s=none)∨∃ n:Nat,n<s.length∧Lib.indexByte s 61=(n:Int)∧fj s=some (s.take n,s.drop (n+1))
 | []=>.inl ⟨rfl,rfl⟩
 | c::s=>by
   by_cases hc:c=61
   · subst hc
     exact .inr ⟨0,by simp,by simp [Lib.indexByte],by simp [fj]⟩
   · have e1:(c == 61)=false:=by simpa using hc
     unfold Lib.indexByte
     rw [e1]
     simp only [Bool.false_eq_true,if_false,fj,if_neg hc]
     rcases Dm s with ⟨h1,h2⟩|⟨n,h0,h1,h2⟩
     · exact .inl ⟨by rw [h1];rfl,by rw [h2]⟩
     · refine .inr ⟨n+1,by simp;omega,?_,by rw [h2];simp⟩
       rw [h1]
       have:((n:Int) == -1)=false:=by simp
       rw [this];simp
def Dl (s:List UInt8):AV:=match fj s with
 | some (a,b)=>.tup [.str a,.str b,.bool true]
 | none=>.tup [.str s,.str [],.bool false]
theorem FI {a:List UInt8} {c:UInt8} {L:List Blk} {K:AV→List Blk→Prop} (h:K (.int .i64 (Lib.indexByte a c)) L):ad Tryz.prog 127 [.str a,.str [c]] L K :=
 iL Tryz.func127 rfl (by kernel_rfl) (fun w0 S0 E w vs hR hv=>by
   simp only [VRL,VR] at hv
   obtain ⟨_,_,rfl,rfl,_,_,rfl,rfl,rfl⟩:=hv
   exact (Tryz.stringslite_Index_one ⟨⟨a⟩⟩ c w).mono fun e w' ⟨he,hw⟩=>⟨_,he,by simp [VR],by subst hw;exact E8.refl _⟩) h
theorem JU {s:List UInt8} (hs:s.length≤100000) {L:List Blk} {K:AV→List Blk→Prop} (h:K (Dl s) L):ad Tryz.prog 100 [.str s,.str [61]] L K:=by
 have hl:[(61:UInt8)].length=1:=rfl
 rcases Dm s with ⟨h1,h2⟩|⟨n,h0,h1,h2⟩
 · simp only [Dl,h2] at h
   replace h:=hid h
   clear h2
   refine ac da (by simp [a6]) ?_
   simp only [a6,aj]
   have kk1:=@hid _ @FI
   refine wk ?_
   exact aq h.out
 · simp only [Dl,h2] at h
   replace h:=hid h
   have g1:(0:Int)≤(n:Int):=by omega
   have g2:IntKind.i64.wrap ((n:Int)+1)=(n:Int)+1:=ab (by omega) (by omega)
   have g3:(n:Int)≤(s.length:Int):=by omega
   have g4:(n:Int)+1≤(s.length:Int):=by omega
   have g5:(0:Int)≤(n:Int)+1:=by omega
   have g6:((n:Int)+1).toNat=n+1:=by omega
   have g7:(s.drop (n+1)).take (s.length - (n+1))=s.drop (n+1):=List.take_of_length_le (by simp)
   clear h2
   refine ac da (by simp [a6]) ?_
   simp only [a6,aj]
   have kk1:=@hid _ @FI
   refine wk ?_
   exact aq h.out
theorem MI {s:List UInt8} (hs:s.length≤100000) {L:List Blk} {K:AV→List Blk→Prop} (h:K (Dl s) L):ad Tryz.prog 76 [.str s,.str [61]] L K:=by
 rcases hc:fj s with _|⟨a,b⟩
 all_goals
   simp only [Dl,hc] at h
   replace h:=hid h
 · refine ac mX (by simp [eJ]) ?_
   simp only [eJ,aj]
   refine wk ?_
   refine JU hs ?_
   simp only [Dl,hc]
   refine sk ?_
   refine wk ?_
   exact aq h.out
 · refine ac mX (by simp [eJ]) ?_
   simp only [eJ,aj]
   refine wk ?_
   refine JU hs ?_
   simp only [Dl,hc]
   refine sk ?_
   refine wk ?_
   exact aq h.out
abbrev Rdn:=List Ava
abbrev aH (r:Rdn):AV:=Gk r none
def iM:Nat→List Rdn→Rdn→List UInt8→List Rdn×Int
 | 0,_,_,_=>([],4)
 | f+1,out,now,s=>if out.length=32∨now.length=8 then ([],9) else match fj s with
   | none=>([],4)
   | some (typ,rest)=>if gl typ=false then ([],4) else if gP now typ=true then ([],21) else match dx [] false rest with
     | none=>([],4)
     | some (v,r2,ok)=>if ok=false then ([],4) else match r2 with
       | []=>(out++[now++[(typ,v)]],0)
       | c::s'=>if c=44 then iM f (out++[now++[(typ,v)]]) [] s' else iM f out (now++[(typ,v)]) s'
def c8 (s:List UInt8):List Rdn×Int:=if 4096<s.length then ([],5) else if s=[] then ([],0) else iM (s.length+1) [] [] s
def Jo (p:List Rdn×Int):AV:=.tup [.sl (p.1.map aH) p.1.length none,.int .i64 p.2]
theorem FS:∀ {s a b:List UInt8},fj s=some (a,b)→b.length<s.length∧a.length≤s.length
 | [],a,b,h=>by simp [fj] at h
 | c::s,a,b,h=>by
   simp only [fj] at h
   split at h
   · simp only [Option.some.injEq,Prod.mk.injEq] at h
     obtain ⟨rfl,rfl⟩:=h
     simp
   · split at h
     · cases h
     · rename_i a' b' hc
       simp only [Option.some.injEq,Prod.mk.injEq] at h
       obtain ⟨rfl,rfl⟩:=h
       have:=FS hc
       simp;omega
theorem IU:∀ (n:Nat) {s b:List UInt8} {bl:Bool} {v r:List UInt8} {ok:Bool},s.length≤n→dx b bl s=some (v,r,ok)→r.length≤s.length:=by
 intro n
 induction n with
 | zero =>
   intro s b bl v r ok hn h
   obtain rfl:=List.length_eq_zero_iff.1 (Nat.le_zero.1 hn)
   rw [fX] at h;cases h;simp
 | succ n ih =>
   intro s b bl v r ok hn h
   cases s with
   | nil=>rw [fX] at h;cases h;simp
   | cons c s =>
     simp only [List.length_cons] at hn
     by_cases hc:c=44∨c=43
     · rw [gR hc] at h;cases h;simp
     by_cases h92:c=92
     · subst h92
       cases s with
       | nil=>rw [vl] at h;cases h
       | cons d s =>
         by_cases hd:d∈gU
         · rw [kb hd] at h
           have:=ih (by simp at hn;omega) h
           simp;omega
         · cases s with
           | nil=>rw [vj hd] at h;cases h
           | cons e s =>
             rw [rq hd] at h
             split at h
             · cases h
             · have:=ih (by simp at hn;omega) h
               simp;omega
     · rw [fG hc h92] at h
       split at h
       · cases h
       · have:=ih (by omega) h
         simp;omega
section
variable {P:Program} {N:Nat} {own:Nat→Nat→Nat} {Q:Exit→Tm→List Blk→Prop} {T:Tm} {L:List Blk}
theorem HI {lc:bE} (t sz B:Nat) {l:List AV} {n:Nat} {v:AV} (ht:am T t=some v) (hB:B<L.length) (hv:(v=.sl [] 0 (some 0)∧l=[]∧n=0)∨∃ i,B<i∧v=.gsl l n i sz∧L[i]?=some (.spare n sz))
   (h:∀ i X,B<i→(L++X)[i]?=some (.spare n sz)→AW P N own lc Q ((t,.gsl l n i sz)::T) (L++X)):AW P N own lc Q T L:=by
 rcases hv with ⟨rfl,rfl,rfl⟩|⟨i,hBi,rfl,hi⟩
 · exact cj t sz ht (by simp) (h L.length [.spare 0 sz] hB (by simp))
 · have h':=h i [] hBi (by simpa using hi)
   rw [List.append_nil] at h'
   refine h'.weakT fun t' v' e=>?_
   simp only [am] at e
   split at e
   · rename_i e1;subst e1;cases e;exact ht
   · exact e
end
set_option maxHeartbeats 8000000
set_option maxRecDepth 100000
def MN (B:Nat) (r:Rdn) (v:AV) (L:List Blk):Prop:=(v=.sl [] 0 (some 0)∧a7 r=[]∧r.length=0)∨∃ i,B<i∧v=.gsl (a7 r) r.length i 2∧L[i]?=some (.spare r.length 2)
theorem Em (r:Rdn) (t v:List UInt8):a7 (r++[(t,v)])=a7 r++[.str t,.str v]:=by simp [a7,rp]
theorem gT (r:Rdn):AV.frzL (a7 r)=a7 r:=by
 induction r with
 | nil=>rfl
 | cons a r ih=>simpa [a7,rp,AV.frzL,AV.frz] using ih
theorem dH {L0 X:List Blk} {e:Int} {K:AV→List Blk→Prop} (h:K (Jo ([],e)) L0):Fin L0 (.tup [.sl [] 0 (some 0),.int .i64 e]) (L0++X) K:=ao (aa rfl h)
theorem bJ (d:List Rdn):AV.frzL (d.map aH)=d.map aH:=by
 rw [AV.frzL_eq,List.map_map]
 refine List.map_congr_left fun r _=>?_
 simp only [Function.comp,AV.frz,gT]
theorem IB (q:Nat→Bool) (r:Rdn):AV.refsL q (a7 r)=true:=by
 induction r with
 | nil=>rfl
 | cons a r ih=>simpa [a7,rp,AV.refsL,AV.refs] using ih
theorem dm (q:Nat→Bool):∀ d:List Rdn,AV.refsL q (d.map aH)=true
 | []=>rfl
 | r::d=>by simp only [List.map_cons,AV.refsL,AV.refs,IB,dm q d,Bool.and_self]
theorem kc {s:List UInt8} (h:gl s=true):s.length≤32:=by
 simp only [gl,Bool.and_eq_true,decide_eq_true_eq] at h
 exact h.1.1.2
theorem LV {r:Rdn} {typ:List UInt8} {i n:Nat} (hr:r.length=n) (hn:n≤8) (h1:∀ a∈r,a.1.length≤32) (h2:typ.length≤4096) {L:List Blk} {K:AV→List Blk→Prop} (h:K (.bool (gP r typ)) L) :
   ad Tryz.prog 63 [.gsl (a7 r) n i 2,.str typ] L K:=by
 subst hr
 exact dL (by simpa only [AV.frzL,AV.frz,gT] using Lp (cap:=none) (by omega) (fun a ha=>by have:=h1 a ha;omega) (by omega) h)
theorem Hk {s:List UInt8} {L:List Blk} {K:AV→List Blk→Prop} (h:K (Jo (c8 s)) L):ad Tryz.prog 52 [.str s] L K:=by
 refine ac DP (by simp [yr]) ?_
 simp only [yr,aj]
 by_cases h1:4096<s.length
 · have f1:(4096:Int)<(s.length:Int):=by omega
   rw [c8,if_pos h1] at h
   replace h:=hid h
   clear h1
   refine wk ?_
   exact ao (aq h.out)
 have f1:¬ (4096:Int)<(s.length:Int):=by omega
 rw [c8,if_neg h1] at h
 by_cases h2:s=[]
 · rw [if_pos h2] at h
   replace h:=hid h
   refine wk ?_
   exact ao (aq h.out)
 rw [if_neg h2] at h
 replace h:=hid h
 have hs:=hid (show s.length≤4096 by omega)
 clear h1
 obtain ⟨R,hR⟩:∃ R,iM (s.length+1) [] [] s=R:=⟨_,rfl⟩
 rw [hR] at h
 refine wk ?_
 refine cj (l:=[]) (n:=0) 4 1 rfl (Nat.zero_mul 1).symm ?_
 refine ak (fun n T' L'=>∃ (f m:Nat) (out:List Rdn) (now:Rdn) (u:List UInt8) (v:AV) (X:List Blk),f=n∧u.length≤4096∧m=out.length∧m≤32∧now.length≤8∧Hid (u.length<f∧iM f out now u=R∧(∀ a∈now,a.1.length≤32)∧MN L.length now v L')∧L'[L.length]?=some (.spare m 1)∧T'=[(5,v),(4,.gsl (out.map aH) m L.length 1),(0,.str u)]∧L'=L++X) (CutS (b:=by simp)) ⟨s.length+1,0,[],[],s,_,[.spare 0 1],rfl,hs.out,rfl,by omega,by simp,hid ⟨by omega,hR,by simp,.inl ⟨rfl,rfl,rfl⟩⟩,by simp,rfl,rfl⟩ ?_
 clear h2
 clear hs
 rintro _ _ _ ⟨f,m,out,now,u,v,X,rfl,hu,hm,hm32,hn8,hI,ho,rfl,rfl⟩
 obtain ⟨hf,hp,ht,hv⟩:=hI.out
 clear hI
 clear hR
 obtain ⟨f,rfl⟩:∃ g,f=g+1:=⟨f - 1,by omega⟩
 have hB:L.length<(L++X).length:=(List.getElem?_eq_some_iff.1 ho).1
 refine HI 5 2 L.length rfl hB hv fun i Y hBi hi=>?_
 rw [List.append_assoc] at hi ⊢
 have ho2:(L++(X++Y))[L.length]?=some (.spare m 1):=by rw [← List.append_assoc,List.getElem?_append_left hB];exact ho
 generalize X++Y=Z at hi ho2 ⊢
 clear ho hB hv
 have s5:∀ A,(L++Z).set i A=L++Z.set (i - L.length) A:=fun A=>List.set_append_right _ _ (by omega)
 have s4:∀ (W:List Blk) A,(L++W).set L.length A=L++W.set 0 A:=fun W A=>by rw [List.set_append_right _ _ (Nat.le_refl _),Nat.sub_self]
 have hz:i - L.length≠0:=by omega
 have s54:∀ A,(L++Z.set (i - L.length) A)[L.length]?=some (.spare m 1):=fun A=>by rw [← s5,List.getElem?_set_ne (by omega)];exact ho2
 have s55:∀ A,(L++Z.set (i - L.length) A)[i]?=some A:=fun A=>by rw [← s5,List.getElem?_set,if_pos rfl,if_pos (List.getElem?_eq_some_iff.1 hi).1]
 have hul:=hu
 obtain ⟨c,hc⟩:∃ c:Nat,now.length=c:=⟨_,rfl⟩
 rw [iM] at hp
 rw [hc] at hp hi hn8 ⊢
 by_cases hlim:out.length=32∨c=8
 · rw [if_pos hlim] at hp
   have h':=h.out
   rw [← hp] at h'
   replace h':=hid h'
   have k:(m:Int)=32∨(m:Int)≠32∧(c:Int)=8:=by omega
   clear hp hlim
   clear hm
   rcases k with k|⟨k,k'⟩
   · refine wk ?_
     exact dH h'.out
   · refine wk ?_
     exact dH h'.out
 rw [if_neg hlim] at hp
 have k1:¬ (m:Int)=32:=by omega
 have k2:¬ (c:Int)=8:=by omega
 replace hm:=hid hm
 clear hlim
 replace hp:=hid hp
 replace ht:=hid ht
 refine wk ?_
 refine MI (by omega) ?_
 rcases hcut:fj u with _|⟨typ,rest⟩
 · rw [show Dl u=.tup [.str u,.str [],.bool false] by simp only [Dl,hcut]]
   have h':=h.out
   rw [← hp.out,hcut] at h'
   simp only at h'
   replace h':=hid h'
   refine sk ?_
   refine wk ?_
   exact dH h'.out
 rw [show Dl u=.tup [.str typ,.str rest,.bool true] by simp only [Dl,hcut]]
 have hp2:=hp.out
 rw [hcut] at hp2
 simp only at hp2
 have hlen:=FS hcut
 replace hp2:=hid hp2
 clear hcut hp
 refine sk ?_
 cases hty:gl typ with
 | false =>
   have h':=h.out
   rw [← hp2.out,if_pos hty] at h'
   replace h':=hid h'
   have kk1:=@hid _ @Ga
   refine wk ?_
   exact dH h'.out
 | true =>
   have hp3:=hp2.out
   rw [if_neg (by rw [hty];simp)] at hp3
   replace hp3:=hid hp3
   clear hp2
   have kk1:=@hid _ @Ga
   refine wk ?_
   refine LV hc hn8 ht.out (by omega) ?_
   cases hha:gP now typ with
   | true =>
     have h':=h.out
     rw [← hp3.out,if_pos hha] at h'
     replace h':=hid h'
     refine sk ?_
     refine wk ?_
     exact dH h'.out
   | false =>
     have hp4:=hp3.out
     rw [if_neg (by rw [hha];simp)] at hp4
     replace hp4:=hid hp4
     clear hp3
     refine sk ?_
     refine wk ?_
     refine Ko (by omega) ?_
     rcases hvl:dx [] false rest with _|⟨w,r2,okk⟩
     · have h':=h.out
       rw [← hp4.out,hvl] at h'
       simp only at h'
       replace h':=hid h'
       simp only [HL]
       refine sk ?_
       refine wk ?_
       exact dH h'.out
     · have hp5:=hp4.out
       rw [hvl] at hp5
       simp only at hp5
       have hl2:=IU _ (Nat.le_refl _) hvl
       replace hp5:=hid hp5
       clear hp4 hvl
       simp only [HL]
       refine sk ?_
       cases okk with
       | false =>
         have h':=h.out
         rw [← hp5.out,if_pos rfl] at h'
         replace h':=hid h'
         refine wk ?_
         exact dH h'.out
       | true =>
         have hp6:=hp5.out
         rw [if_neg (by simp)] at hp6
         replace hp6:=hid hp6
         clear hp5
         have q1:(c+1) * 32≤140737488355328:=by omega
         have q2:c+1≤140737488355328:=by omega
         have q3:(m+1) * 24≤140737488355328:=by omega
         have q4:m+1≤140737488355328:=by omega
         have e1:a7 now++[AV.str typ,AV.str w]=a7 (now++[(typ,w)]):=(Em _ _ _).symm
         have e2:out.map aH++[AV.sl (AV.frzL (a7 now++[AV.str typ,AV.str w])) (c+1) none]=(out++[now++[(typ,w)]]).map aH:=by
           rw [e1,gT,List.map_append]
           simp [hc]
         have e3:(out++[now++[(typ,w)]]).length=m+1:=by simp [hm.out]
         have e4:(now++[(typ,w)]).length=c+1:=by simp [hc]
         have e5:∀ a∈now++[(typ,w)],a.1.length≤32:=fun a ha=>by
           rcases List.mem_append.1 ha with h|h
           · exact ht.out a h
           · rw [List.mem_singleton.1 h];exact kc hty
         replace e1:=hid e1
         replace e2:=hid e2
         replace e3:=hid e3
         replace e4:=hid e4
         replace e5:=hid e5
         cases r2 with
         | nil =>
           have h':=h.out
           rw [← hp6.out] at h'
           simp only at h'
           replace h':=hid h'
           refine wk ?_
           rw [e2.out]
           refine ao (aa ?_ ?_)
           · simp only [AV.frz,AV.frzL,bJ,AV.refs,AV.refsL,dm,Bool.and_self]
           · simp only [AV.frz,AV.frzL,bJ]
             have:=h'.out
             simp only [Jo,e3.out] at this
             exact this
         | cons x s' =>
           simp only at hp6
           have q5:¬ (x::s'=[]):=by simp
           have q7:((s'.length:Int)+1).toNat - 1=s'.length:=by omega
           have q8:s'.take (((s'.length:Int)+1).toNat - 1)=s':=by rw [q7,List.take_length]
           simp only [List.length_cons] at hl2
           clear q7
           replace q8:=hid q8
           by_cases hx:x=44
           · subst hx
             refine wk ?_
             rw [q8.out,e2.out]
             refine an _ _ _ ?_ (CutS (b:=?_)) ⟨f,m+1,out++[now++[(typ,w)]],[],s',.sl [] 0 (some 0),_,rfl,by omega,e3.out.symm,by omega,by simp,hid ⟨by omega,?_,by simp,.inl ⟨rfl,rfl,rfl⟩⟩,?_,rfl,rfl⟩
             · omega
             · have:=(List.getElem?_eq_some_iff.1 ho2).1
               simp at this ⊢;omega
             · rw [← hp6.out,if_pos rfl]
             · have:=(List.getElem?_eq_some_iff.1 ho2).1
               rw [← s4,List.getElem?_set,if_pos rfl,if_pos (by simp at this ⊢;omega)]
           · have q6:¬ (x.toNat:Int)=44:=fun e=>hx ((aL x 44).1 e)
             refine wk ?_
             rw [q8.out,e1.out]
             refine an _ _ _ ?_ (CutS (b:=?_)) ⟨f,m,out,now++[(typ,w)],s',.gsl (a7 (now++[(typ,w)])) (c+1) i 2,_,rfl,by omega,hm.out,hm32,by rw [e4.out];omega,hid ⟨by omega,?_,e5.out,.inr ⟨i,hBi,by rw [e4.out],by rw [e4.out];exact s55 _⟩⟩,s54 _,rfl,rfl⟩
             · omega
             · have:=(List.getElem?_eq_some_iff.1 ho2).1
               simp at this ⊢;omega
             · rw [← hp6.out,if_neg hx]
set_option maxHeartbeats 8000000
set_option maxRecDepth 100000
def du:Rdn→Rdn→Int
 | _,[]=>0
 | done,a::t=>if done.length=8 then 9 else if gl a.1=false then 20 else if gP done a.1=true then 21 else du (done++[a]) t
def iN:Nat→List Rdn→Int
 | _,[]=>0
 | i,r::t=>if i=32 then 9 else if r=[] then 2 else if du [] r≠0 then du [] r else iN (i+1) t
theorem rt {d:List Rdn} {k:Nat} (h:k<d.length):(d.map aH).getD k .undef=aH (d.getD k []):=by simp [h]
theorem El {r:Rdn} {k:Nat}:(a7 r).take (k * 2)=a7 (r.take k):=by
 induction r generalizing k with
 | nil=>simp [a7]
 | cons a r ih =>
   cases k with
   | zero=>simp [a7]
   | succ k =>
     have:=@ih k
     simp only [a7] at this
     rw [show (k+1) * 2=k * 2+1+1 by omega]
     simp [a7,rp,this]
theorem LU {r:Rdn} {typ:List UInt8} {n:Nat} {cap:Option Nat} (hr:r.length=n) (hn:n≤8) (h1:∀ a∈r,a.1.length≤32) (h2:typ.length≤32) {L:List Blk} {K:AV→List Blk→Prop} (h:K (.bool (gP r typ)) L) :
   ad Tryz.prog 63 [.sl (a7 r) n cap,.str typ] L K:=by
 subst hr
 exact Lp (by omega) (fun a ha=>by have:=h1 a ha;omega) (by omega) h
theorem K3 {d:List Rdn} {cap:Option Nat} (hn:d.length≤1100000) (hr:∀ r∈d,r.length≤1100000) {L:List Blk} {K:AV→List Blk→Prop} (h:K (.int .i64 (iN 0 d)) L):ad Tryz.prog 41 [.sl (d.map aH) d.length cap] L K:=by
 replace h:=hid h
 have hat:=hid (fun k=>@rt d k)
 replace hr:=hid hr
 refine ac DN (by simp [yp]) ?_
 simp only [yp,aj]
 refine wk ?_
 refine ak (fun n T' L'=>∃ (i:Nat) (X:List Blk),n=d.length - i∧i≤d.length∧i≤32∧Hid (iN i (d.drop i)=iN 0 d)∧T'=[(9,.int .i64 (i:Int)),(8,.int .i64 d.length),(7,.sl (d.map aH) d.length cap)]∧L'=L++X) (CutS (b:=by simp)) ⟨0,[],rfl,Nat.zero_le _,by omega,hid rfl,rfl,by simp⟩ ?_
 rintro _ _ _ ⟨i,X,rfl,hi,hi32,he,rfl,rfl⟩
 by_cases hlt:i<d.length
 · have g1:(i:Int)<(d.length:Int):=by omega
   have g2:IntKind.i64.wrap ((i:Int)+1)=(i:Int)+1:=ab (by omega) (by omega)
   have e2:=hat.out i hlt
   have hrl:=hr.out (d.getD i []) (by rw [List.getD_eq_getElem?_getD,List.getElem?_eq_getElem hlt];exact List.getElem_mem _)
   obtain ⟨r,hri⟩:∃ r,d.getD i []=r:=⟨_,rfl⟩
   have hdr:d.drop i=r::d.drop (i+1):=by rw [List.drop_eq_getElem_cons hlt,← hri];simp [hlt]
   rw [hri] at e2 hrl
   have he2:=he.out
   rw [hdr,iN] at he2
   clear hdr hri
   by_cases h32:i=32
   · rw [if_pos h32] at he2
     have h':=h.out
     rw [← he2] at h'
     replace h':=hid h'
     have k1:(i:Int)=32:=by omega
     have g1':(32:Int)<(d.length:Int):=by omega
     clear h32 he2
     refine wk ?_
     exact aa rfl h'.out
   rw [if_neg h32] at he2
   have k1:¬ (i:Int)=32:=by omega
   by_cases hr0:r=[]
   · rw [if_pos hr0] at he2
     subst hr0
     have h':=h.out
     rw [← he2] at h'
     replace h':=hid h'
     clear h32 he2
     refine wk ?_
     exact aa rfl h'.out
   rw [if_neg hr0] at he2
   have k2:¬ (r.length:Int)=0:=by have:=List.length_pos_iff.2 hr0;omega
   have herr:∀ e:Int,du [] r=e→e≠0→K (.int .i64 e) L:=fun e a1 a2=>by
     rw [if_pos (by rw [a1];exact a2),a1] at he2
     rw [he2];exact h.out
   replace herr:=hid herr
   replace he2:=hid he2
   clear h32
   refine wk ?_
   refine ak (fun n T' L'=>∃ (k:Nat) (Y:List Blk),n=r.length - k∧k≤r.length∧k≤8∧Hid (du (r.take k) (r.drop k)=du [] r∧∀ a∈r.take k,a.1.length≤32)∧T'=[(23,.int .i64 (k:Int)),(22,.int .i64 r.length),(21,aH r),(4,aH r),(9,.int .i64 (i:Int)),(8,.int .i64 d.length),(7,.sl (d.map aH) d.length cap)]∧L'=L++(X++Y)) (CutS (b:=by simp)) ⟨0,[],rfl,Nat.zero_le _,by omega,hid ⟨rfl,by simp⟩,rfl,by simp⟩ ?_
   rintro _ _ _ ⟨k,Y,rfl,hk,hk8,hrow,rfl,rfl⟩
   by_cases hkl:k<r.length
   · have g3:(k:Int)<(r.length:Int):=by omega
     have g4:IntKind.i64.wrap ((k:Int)+1)=(k:Int)+1:=ab (by omega) (by omega)
     have e3:=eM hkl
     have e4:k * 2+2≤(a7 r).length:=by rw [dp];omega
     obtain ⟨⟨ty,va⟩,ha⟩:∃ a,r.getD k ([],[])=a:=⟨_,rfl⟩
     have hdk:r.drop k=(ty,va)::r.drop (k+1):=by rw [List.drop_eq_getElem_cons hkl,← ha];simp [hkl]
     have htk:r.take (k+1)=r.take k++[(ty,va)]:=by rw [List.take_succ_eq_append_getElem hkl,← ha];simp [hkl]
     rw [ha] at e3
     simp only [rp] at e3
     obtain ⟨hr1,hr2⟩:=hrow.out
     rw [hdk,du] at hr1
     have hlk:(r.take k).length=k:=by simp;omega
     rw [hlk] at hr1
     clear hdk ha hrow
     have e5:(a7 r).take (k * 2)=a7 (r.take k):=El
     have g5:(k:Int)≤(r.length:Int):=by omega
     replace hr1:=hid hr1
     replace hr2:=hid hr2
     replace htk:=hid htk
     have e6:=hid hlk
     clear hlk
     repeat' first
       | refine cc ?_
       | (first|refine bs (by kernel_rfl) ?_|refine aT (by kernel_rfl) ?_|refine aU ?_|refine dw ?_|refine bY (fun _=>?_)|refine aF ?_|refine bv ?_)
         refine sm ?_
       | (first|refine bo (by kernel_rfl) ?_|refine bt ?_|refine bu ?_|refine ce (aE ?_))
         refine sl ?_
       | exact bZ
       | first|apply b9|apply bp|apply ca|apply bq|apply cb|apply br
       | refine aX ?_
       | first|refine aV rfl ?_|refine aW rfl ?_|refine aA rfl ?_ ?_|refine ba rfl (fun _=>?_) (fun _=>?_)|refine a8 rfl (fun _=>?_) (fun _=>?_)
       | ((first|refine ay (fun _=>?_) (fun _=>?_)|refine aC (fun _=>?_) (fun _=>?_))<;>try refine sm ?_)
       | refine And.intro trivial ?_
       | refine And.intro (by omega) ?_
       | refine aY rfl (fun _=>?_) (fun _=>?_)
       | refine And.intro ?_ ?_
     · rename_i h8
       have h':=herr.out 9 (by rw [← hr1.out,if_pos (by omega)]) (by decide)
       exact aa rfl h'
     · rename_i h8
       have hr3:=hr1.out
       rw [if_neg (by omega)] at hr3
       refine Ga ?_
       cases hty:gl ty with
       | false =>
         have h':=hid (herr.out 20 (by rw [← hr3,if_pos hty]) (by decide))
         clear hr3
         refine sk ?_
         refine wk ?_
         exact aa rfl h'.out
       | true =>
         rw [if_neg (by rw [hty];simp)] at hr3
         replace hr3:=hid hr3
         have htl:=kc hty
         refine sk ?_
         repeat' first
           | refine cc ?_
           | (first|refine bs (by kernel_rfl) ?_|refine aT (by kernel_rfl) ?_|refine aU ?_|refine dw ?_|refine bY (fun _=>?_)|refine aF ?_|refine bv ?_)
             refine sm ?_
           | (first|refine bo (by kernel_rfl) ?_|refine bt ?_|refine bu ?_|refine ce (aE ?_))
             refine sl ?_
           | exact bZ
           | first|apply b9|apply bp|apply ca|apply bq|apply cb|apply br
           | refine aX ?_
           | first|refine aV rfl ?_|refine aW rfl ?_|refine aA rfl ?_ ?_|refine ba rfl (fun _=>?_) (fun _=>?_)|refine a8 rfl (fun _=>?_) (fun _=>?_)
           | ((first|refine ay (fun _=>?_) (fun _=>?_)|refine aC (fun _=>?_) (fun _=>?_))<;>try refine sm ?_)
           | refine And.intro trivial ?_
           | refine And.intro (by omega) ?_
           | refine aY rfl (fun _=>?_) (fun _=>?_)
           | refine And.intro ?_ ?_
         refine aD (LU e6.out (by omega) hr2.out htl ⟨rfl,rfl⟩) ?_
         cases hha:gP (r.take k) ty with
         | true =>
           have h':=hid (herr.out 21 (by rw [← hr3.out,if_pos hha]) (by decide))
           refine sk ?_
           refine wk ?_
           exact aa rfl h'.out
         | false =>
           have hr4:=hr3.out
           rw [if_neg (by rw [hha];simp),← htk.out] at hr4
           replace hr4:=hid hr4
           clear hr3
           refine sk ?_
           refine wk ?_
           refine an _ _ _ (by omega) (CutS (b:=by simp)) ⟨k+1,Y++[.cells [.str ty,.str va]],rfl,hkl,by omega,hid ⟨hr4.out,fun a ha=>?_⟩,rfl,by simp⟩
           rw [htk.out] at ha
           rcases List.mem_append.1 ha with h|h
           · exact hr2.out a h
           · rw [List.mem_singleton.1 h];exact htl
   · have hke:k=r.length:=by omega
     subst hke
     have g3:¬ (r.length:Int)<(r.length:Int):=by omega
     have hz:=hrow.out.1
     rw [List.drop_length,du] at hz
     have he3:=he2.out
     rw [← hz] at he3
     simp only [ne_eq,not_true_eq_false,if_false] at he3
     replace he3:=hid he3
     clear hz
     refine wk ?_
     exact an _ _ _ (by omega) (CutS (b:=by simp)) ⟨i+1,X++Y,rfl,hlt,by omega,hid he3.out,rfl,rfl⟩
 · have hke:i=d.length:=by omega
   subst hke
   have g1:¬ (d.length:Int)<(d.length:Int):=by omega
   have h':=h.out
   rw [← he.out,List.drop_length,iN] at h'
   replace h':=hid h'
   refine wk ?_
   exact aa rfl h'.out
end Go.Proofs.YtgpnbkdcdmfgcaaGreat.Av
