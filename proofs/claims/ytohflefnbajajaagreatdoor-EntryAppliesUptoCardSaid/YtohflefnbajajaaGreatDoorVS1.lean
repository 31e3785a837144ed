/- Joined texts of the walk, made small by a program. -/
import Derived.Test.YtohflefnbajajaaGreatDoorVP4
import Derived.Test.YtohflefnbajajaaGreatDoorRows
import Derived.KernelRfl
import Derived.Test.YtohflefnbajajaaGreatDoorVD1
import Derived.Test.YtohflefnbajajaaGreatDoorVP5
import Derived.Test.YtohflefnbajajaaGreatDoorVShelfP
import Derived.Sort.Walk0
import Derived.Test.YtohflefnbajajaaGreatDoorVD2
set_option linter.unusedSimpArgs false
set_option linter.unusedVariables false
set_option maxRecDepth 100000
namespace Go.Proofs.YtohflefnbajajaaGreatDoor.Av
open Go
def jP:List SOp :=
 [o1 1 (.box (tm 0)),
 o1 2 (.mv (.av (.bool false)))]
def jO:List SOp :=
 [o1 10 (.load false 1 (tm 1)),
 o1 11 (.len true (tm 10)),
 o1 12 (.bin .neq (tm 11) (iv 15)),
 o1 13 (.mv (tm 12)),
 .grp none 13 false
 [og 14 13 false (.load false 1 (tm 1)),
 og 15 13 false (.idxS (tm 14) (iv 14)),
 og 16 13 false (.bin .neq (tm 15) (.av (.int .u8 90)))]
 17 (tm 16)]
def jN:List SOp :=
 [o1 2 (.mv (.av (.bool false)))]
def jM:List SOp :=
 [o1 18 (.load false 1 (tm 1)),
 o1 19 (.slS (tm 18) none (some (iv 14))),
 o1 20 (.s2b (tm 19)),
 o1 21 (.len false (tm 20)),
 o1 22 (.mv (iv 0))]
def jL:List SOp :=
 [o1 23 (.bin .lss (tm 22) (tm 21))]
def jK:List SOp :=
 [o1 24 (.iaddr 1 (tm 20) (tm 22)),
 o1 25 (.load false 1 (tm 24)),
 o1 4 (.mv (tm 25))]
def jJ:List SOp :=
 [o1 26 (.mv (tm 4)),
 o1 27 (.bin .lss (tm 26) (.av (.int .u8 48))),
 o1 28 (.mv (tm 27)),
 .grp none 28 false
 [og 29 28 false (.mv (tm 4)),
 og 30 28 false (.bin .gtr (tm 29) (.av (.int .u8 57)))]
 31 (tm 30)]
def jI:List SOp :=
 [o1 2 (.mv (.av (.bool false)))]
def jH:List SOp :=
 [o1 32 (.bin .add (tm 22) (iv 1)),
 o1 22 (.mv (tm 32))]
def jG:List SOp :=
 [o1 33 (.mkfn 155 [(tm 1)]),
 o1 5 (.mv (tm 33))]
def jl:List SOp :=
 [o1 34 (.mv (tm 5)),
 o1 35 (.callv (tm 34) [(iv 0)]),
 o1 36 (.bin .mul (tm 35) (iv 100)),
 o1 37 (.mv (tm 5)),
 o1 38 (.callv (tm 37) [(iv 2)]),
 o1 39 (.bin .add (tm 36) (tm 38)),
 o1 40 (.mv (tm 5)),
 o1 41 (.callv (tm 40) [(iv 4)]),
 o1 42 (.mv (tm 5)),
 o1 43 (.callv (tm 42) [(iv 6)]),
 o1 6 (.mv (tm 39)),
 o1 7 (.mv (tm 41)),
 o1 8 (.mv (tm 43))]
def jk:List SOp :=
 [o1 44 (.mv (tm 7)),
 o1 45 (.bin .lss (tm 44) (iv 1)),
 o1 46 (.mv (tm 45)),
 .grp none 46 false
 [og 47 46 false (.mv (tm 7)),
 og 48 46 false (.bin .gtr (tm 47) (iv 12))]
 49 (tm 48),
 o1 50 (.mv (tm 49)),
 .grp none 50 false
 [og 51 50 false (.mv (tm 8)),
 og 52 50 false (.bin .lss (tm 51) (iv 1))]
 53 (tm 52),
 o1 54 (.mv (tm 53)),
 .grp none 54 false
 [og 55 54 false (.mv (tm 5)),
 og 56 54 false (.callv (tm 55) [(iv 8)]),
 og 57 54 false (.bin .gtr (tm 56) (iv 23))]
 58 (tm 57),
 o1 59 (.mv (tm 58)),
 .grp none 59 false
 [og 60 59 false (.mv (tm 5)),
 og 61 59 false (.callv (tm 60) [(iv 10)]),
 og 62 59 false (.bin .gtr (tm 61) (iv 59))]
 63 (tm 62),
 o1 64 (.mv (tm 63)),
 .grp none 64 false
 [og 65 64 false (.mv (tm 5)),
 og 66 64 false (.callv (tm 65) [(iv 12)]),
 og 67 64 false (.bin .gtr (tm 66) (iv 59))]
 68 (tm 67)]
def jj:List SOp :=
 [o1 2 (.mv (.av (.bool false)))]
def ji:List SOp :=
 [o1 69 (.mv (tm 7)),
 o1 70 (.bin .sub (tm 69) (iv 1)),
 o1 71 (.iaddrA 12 1 (.av (.gptr 4 0)) (tm 70)),
 o1 72 (.load false 1 (tm 71)),
 o1 9 (.mv (tm 72))]
def jh:List SOp :=
 [o1 73 (.mv (tm 7)),
 o1 74 (.bin .eql (tm 73) (iv 2)),
 o1 75 (.mv (tm 74)),
 .grp none 75 true
 [og 76 75 true (.mv (tm 6)),
 og 77 75 true (.bin .rem (tm 76) (iv 4)),
 og 78 75 true (.bin .eql (tm 77) (iv 0)),
 og 79 75 true (.mv (tm 78)),
 .grp (some (75,true)) 79 true
 [og 80 79 true (.mv (tm 6)),
 og 81 79 true (.bin .rem (tm 80) (iv 100)),
 og 82 79 true (.bin .neq (tm 81) (iv 0))]
 83 (tm 82),
 og 84 75 true (.mv (tm 83)),
 .grp (some (75,true)) 84 false
 [og 85 84 false (.mv (tm 6)),
 og 86 84 false (.bin .rem (tm 85) (iv 400)),
 og 87 84 false (.bin .eql (tm 86) (iv 0))]
 88 (tm 87)]
 89 (tm 88)]
def jg:List SOp :=
 [o1 90 (.mv (tm 9)),
 o1 91 (.bin .add (tm 90) (iv 1)),
 o1 9 (.mv (tm 91))]
def jf:List SOp :=
 [o1 92 (.mv (tm 8)),
 o1 93 (.mv (tm 9)),
 o1 94 (.bin .leq (tm 92) (tm 93)),
 o1 2 (.mv (tm 94))]
def iu:aU:=⟨95,(.seq (.sreg jP [])
 (.seq (.seq (.sreg jO [true,false,false,false,false])
 (.cond (tm 17) (.seq (.sreg jN [])
 .ret)
 .skip))
 (.seq (.seq (.sreg jM [true,true,true,false,false])
 (.block 0 (.loop (.seq (.sreg jL [])
 (.seq (.cond (tm 23) .skip
 (.exit 0))
 (.seq (.block 1 (.seq (.sreg jK [true,false,false])
 (.seq (.sreg jJ [true,false,false,false])
 (.cond (tm 31) (.seq (.sreg jI [])
 .ret)
 .skip))))
 (.sreg jH [true,false])))))))
 (.seq (.sreg jG [true,false])
 (.seq (.sreg jl [true,true,true,false,false,false,false,false,false,false,false,false,false])
 (.seq (.seq (.sreg jk [true,false,false,false,false,false,false,false,false,false,false,false])
 (.cond (tm 68) (.seq (.sreg jj [])
 .ret)
 .skip))
 (.seq (.sreg ji [true,false,false,false,false])
 (.seq (.seq (.sreg jh [true,false,false,false])
 (.cond (tm 89) (.sreg jg [true,false,false])
 .skip))
 (.seq (.sreg jf [true,false,false,false])
 .ret))))))))),[(.tmp 2)]⟩
attribute [push_cast] jP jO jN jM jL jK jJ jI jH jG jl jk jj ji jh jg jf
theorem Al:aW Tryz.prog (fun _ _=>1) 123=some iu.raw:=by kernel_rfl
def iD:List SOp :=
 [o1 3 (.mv (iv 0))]
def iC:List SOp :=
 [o1 4 (.load false 1 (tm 1)),
 o1 5 (.mv (tm 0)),
 o1 6 (.idxS (tm 4) (tm 5)),
 o1 7 (.bin .sub (tm 6) (.av (.int .u8 48))),
 o1 8 (.conv .i64 (tm 7)),
 o1 9 (.bin .mul (tm 8) (iv 10)),
 o1 10 (.load false 1 (tm 1)),
 o1 11 (.mv (tm 0)),
 o1 12 (.bin .add (tm 11) (iv 1)),
 o1 13 (.idxS (tm 10) (tm 12)),
 o1 14 (.bin .sub (tm 13) (.av (.int .u8 48))),
 o1 15 (.conv .i64 (tm 14)),
 o1 16 (.bin .add (tm 9) (tm 15)),
 o1 3 (.mv (tm 16))]
def fQ:aU:=⟨17,(.seq (.sreg iD [])
 (.seq (.sdreg iC [(.read 0 0),.pure,(.read 0 0),.pure,.pure,.pure,(.read 0 0),.pure,.pure,(.read 0 0),.pure,.pure] [true,false,false,false,false,false,false,false,false,false,false,false,false,false])
 .ret)),[(.tmp 3)]⟩
attribute [push_cast] iD iC
theorem w9:aW Tryz.prog (fun _ _=>1) 155=some fQ.raw:=by kernel_rfl
def jF:List SOp :=
 [o1 2 (.mv (iv 0)),
 o1 3 (.mv (.av (.bool false)))]
def jE:List SOp :=
 [o1 7 (.mv (tm 0)),
 o1 8 (.call 96 [(tm 7),(iv 10),(iv 64)]),
 o1 6 (.mv (tm 8)),
 o1 9 (.extract (tm 6) 0),
 o1 10 (.extract (tm 6) 1),
 o1 4 (.mv (tm 9)),
 o1 5 (.mv (tm 10))]
def jD:List SOp :=
 [o1 11 (.mv (tm 4)),
 o1 12 (.mv (tm 5)),
 o1 13 (.eqk false .iface (tm 12) (.av .nilif)),
 o1 14 (.mv (tm 13)),
 .grp none 14 true
 [og 15 14 true (.mv (tm 4)),
 og 16 14 true (.call 44 [(tm 15),(iv 10)]),
 og 17 14 true (.mv (tm 0)),
 og 18 14 true (.bin .eql (tm 16) (tm 17))]
 19 (tm 18),
 o1 2 (.mv (tm 11)),
 o1 3 (.mv (tm 19))]
def ir:aU:=⟨20,(.seq (.sreg jF [])
 (.seq (.sreg jE [true,true,false,false,false,false,false])
 (.seq (.sreg jD [true,true,false,false,false,false,false])
 .ret))),[(.tmp 2),(.tmp 3)]⟩
attribute [push_cast] jF jE jD
theorem Ak:aW Tryz.prog (fun _ _=>1) 121=some ir.raw:=by kernel_rfl
def jR:List SOp :=
 [o1 2 (.mv (.av (.bool false)))]
def jQ:List SOp :=
 [o1 3 (.mv (tm 0)),
 o1 4 (.bin .geq (tm 3) (.av (.int .i32 128))),
 o1 2 (.mv (tm 4))]
def iw:aU:=⟨5,(.seq (.sreg jR [])
 (.seq (.sreg jQ [true,false,false])
 .ret)),[(.tmp 2)]⟩
attribute [push_cast] jR jQ
theorem Am:aW Tryz.prog (fun _ _=>1) 120=some iw.raw:=by kernel_rfl
def gj:List SOp :=
 [o1 4 (.mv (iv 0))]
def gi:List SOp :=
 [o1 5 (.mv (tm 0)),
 o1 6 (.mv (tm 1)),
 o1 7 (.call 152 [(tm 5),(tm 6),(.av (.bool true))]),
 o1 4 (.mv (tm 7))]
def fc:aU:=⟨8,(.seq (.sreg gj [])
 (.seq (.sreg gi [true,false,false,false])
 .ret)),[(.tmp 4)]⟩
attribute [push_cast] gj gi
theorem o3:aW Tryz.prog (fun _ _=>1) 119=some fc.raw:=by kernel_rfl
def gh:List SOp :=
 [o1 6 (.mv (iv 0))]
def gg:List SOp :=
 [o1 9 (.mv (tm 0)),
 o1 10 (.rangeS (tm 9))]
def gf:List SOp :=
 [o1 11 (.nextS (tm 10)),
 o1 12 (.extract (tm 11) 0)]
def gc:List SOp :=
 [o1 13 (.extract (tm 11) 1),
 o1 14 (.extract (tm 11) 2),
 o1 7 (.mv (tm 13)),
 o1 8 (.mv (tm 14))]
def gb:List SOp :=
 [o1 15 (.mv (tm 1)),
 o1 16 (.mv (tm 8)),
 o1 17 (.callv (tm 15) [(tm 16)]),
 o1 18 (.mv (tm 2)),
 o1 19 (.eqk false .bool (tm 17) (tm 18))]
def ga:List SOp :=
 [o1 20 (.mv (tm 7)),
 o1 6 (.mv (tm 20))]
def f9:List SOp :=
 [o1 6 (.mv (iv (-1)))]
def fa:aU:=⟨21,(.seq (.sreg gh [])
 (.seq (.seq (.sreg gg [true,false])
 (.block 0 (.loop (.seq (.sreg gf [])
 (.seq (.cond (tm 12) .skip
 (.exit 0))
 (.block 1 (.seq (.sreg gc [true,true,false,false])
 (.seq (.sreg gb [true,false,false,false,false])
 (.cond (tm 19) (.seq (.sreg ga [true,false])
 .ret)
 .skip)))))))))
 (.seq (.sreg f9 [])
 .ret))),[(.tmp 6)]⟩
attribute [push_cast] gh gg gf gc gb ga f9
theorem oZ:aW Tryz.prog (fun _ _=>1) 152=some fa.raw:=by kernel_rfl
def yx:List SOp :=
 [o1 2 (.mv (.av (.bool false)))]
def yw:List SOp :=
 [o1 7 (.mv (tm 0)),
 o1 8 (.len true (tm 7)),
 o1 9 (.bin .gtr (tm 8) (iv 0))]
def yv:List SOp :=
 [o1 10 (.mv (tm 0)),
 o1 11 (.idxS (tm 10) (iv 0)),
 o1 12 (.conv .i64 (tm 11)),
 o1 3 (.mv (tm 12))]
def yu:List SOp :=
 [o1 4 (.mv (iv 1))]
def yt:List SOp :=
 [o1 13 (.mv (tm 3)),
 o1 14 (.bin .geq (tm 13) (iv 240))]
def yr:List SOp :=
 [o1 4 (.mv (iv 4))]
def yq:List SOp :=
 [o1 15 (.mv (tm 3)),
 o1 16 (.bin .sub (tm 15) (iv 240)),
 o1 3 (.mv (tm 16))]
def yp:List SOp :=
 [o1 17 (.mv (tm 3)),
 o1 18 (.bin .geq (tm 17) (iv 224))]
def yo:List SOp :=
 [o1 4 (.mv (iv 3))]
def yn:List SOp :=
 [o1 19 (.mv (tm 3)),
 o1 20 (.bin .sub (tm 19) (iv 224)),
 o1 3 (.mv (tm 20))]
def uN:List SOp :=
 [o1 21 (.mv (tm 3)),
 o1 22 (.bin .geq (tm 21) (iv 192))]
def uM:List SOp :=
 [o1 4 (.mv (iv 2))]
def uL:List SOp :=
 [o1 23 (.mv (tm 3)),
 o1 24 (.bin .sub (tm 23) (iv 192)),
 o1 3 (.mv (tm 24))]
def uK:List SOp :=
 [o1 25 (.mv (tm 3)),
 o1 26 (.bin .geq (tm 25) (iv 128))]
def uJ:List SOp :=
 [o1 2 (.mv (.av (.bool false)))]
def uI:List SOp :=
 [o1 27 (.mv (tm 0)),
 o1 28 (.len true (tm 27)),
 o1 29 (.mv (tm 4)),
 o1 30 (.bin .lss (tm 28) (tm 29))]
def uH:List SOp :=
 [o1 2 (.mv (.av (.bool false)))]
def uG:List SOp :=
 [o1 5 (.mv (iv 1))]
def uF:List SOp :=
 [o1 31 (.mv (tm 5)),
 o1 32 (.mv (tm 4)),
 o1 33 (.bin .lss (tm 31) (tm 32))]
def uE:List SOp :=
 [o1 36 (.mv (tm 0)),
 o1 37 (.mv (tm 5)),
 o1 38 (.idxS (tm 36) (tm 37)),
 o1 39 (.conv .i64 (tm 38)),
 o1 6 (.mv (tm 39))]
def uD:List SOp :=
 [o1 40 (.mv (tm 6)),
 o1 41 (.bin .lss (tm 40) (iv 128)),
 o1 42 (.mv (tm 41)),
 .grp none 42 false
 [og 43 42 false (.mv (tm 6)),
 og 44 42 false (.bin .geq (tm 43) (iv 192))]
 45 (tm 44)]
def uC:List SOp :=
 [o1 2 (.mv (.av (.bool false)))]
def uB:List SOp :=
 [o1 46 (.mv (tm 3)),
 o1 47 (.bin .mul (tm 46) (iv 64)),
 o1 48 (.mv (tm 6)),
 o1 49 (.bin .add (tm 47) (tm 48)),
 o1 50 (.bin .sub (tm 49) (iv 128)),
 o1 3 (.mv (tm 50))]
def uA:List SOp :=
 [o1 34 (.mv (tm 5)),
 o1 35 (.bin .add (tm 34) (iv 1)),
 o1 5 (.mv (tm 35))]
def uz:List SOp :=
 [o1 51 (.mv (tm 4)),
 o1 52 (.bin .eql (tm 51) (iv 2)),
 o1 53 (.mv (tm 52)),
 .grp none 53 true
 [og 54 53 true (.mv (tm 3)),
 og 55 53 true (.bin .lss (tm 54) (iv 128))]
 56 (tm 55),
 o1 57 (.mv (tm 56)),
 .grp none 57 false
 [og 58 57 false (.mv (tm 4)),
 og 59 57 false (.bin .eql (tm 58) (iv 3)),
 og 60 57 false (.mv (tm 59)),
 .grp (some (57,false)) 60 true
 [og 61 60 true (.mv (tm 3)),
 og 62 60 true (.bin .lss (tm 61) (iv 2048))]
 63 (tm 62)]
 64 (tm 63),
 o1 65 (.mv (tm 64)),
 .grp none 65 false
 [og 66 65 false (.mv (tm 4)),
 og 67 65 false (.bin .eql (tm 66) (iv 4)),
 og 68 65 false (.mv (tm 67)),
 .grp (some (65,false)) 68 true
 [og 69 68 true (.mv (tm 3)),
 og 70 68 true (.bin .lss (tm 69) (iv 65536))]
 71 (tm 70)]
 72 (tm 71),
 o1 73 (.mv (tm 72)),
 .grp none 73 false
 [og 74 73 false (.mv (tm 3)),
 og 75 73 false (.bin .gtr (tm 74) (iv 1114111))]
 76 (tm 75),
 o1 77 (.mv (tm 76)),
 .grp none 77 false
 [og 78 77 false (.mv (tm 3)),
 og 79 77 false (.bin .geq (tm 78) (iv 55296)),
 og 80 77 false (.mv (tm 79)),
 .grp (some (77,false)) 80 true
 [og 81 80 true (.mv (tm 3)),
 og 82 80 true (.bin .lss (tm 81) (iv 57344))]
 83 (tm 82)]
 84 (tm 83)]
def uy:List SOp :=
 [o1 2 (.mv (.av (.bool false)))]
def ux:List SOp :=
 [o1 85 (.mv (tm 0)),
 o1 86 (.mv (tm 4)),
 o1 87 (.slS (tm 85) (some (tm 86)) none),
 o1 0 (.mv (tm 87))]
def uw:List SOp :=
 [o1 2 (.mv (.av (.bool true)))]
def xc:aU:=⟨88,(.seq (.sreg yx [])
 (.seq (.block 0 (.loop (.seq (.seq (.sreg yw [true,false,false])
 (.cond (tm 9) .skip
 (.exit 0)))
 (.block 1 (.seq (.sreg yv [true,false,false,false])
 (.seq (.sreg yu [])
 (.seq (.seq (.sreg yt [true,false])
 (.cond (tm 14) (.seq (.sreg yr [])
 (.sreg yq [true,false,false]))
 (.seq (.sreg yp [true,false])
 (.cond (tm 18) (.seq (.sreg yo [])
 (.sreg yn [true,false,false]))
 (.seq (.sreg uN [true,false])
 (.cond (tm 22) (.seq (.sreg uM [])
 (.sreg uL [true,false,false]))
 (.seq (.sreg uK [true,false])
 (.cond (tm 26) (.seq (.sreg uJ [])
 .ret)
 .skip))))))))
 (.seq (.seq (.sreg uI [true,false,false,false])
 (.cond (tm 30) (.seq (.sreg uH [])
 .ret)
 .skip))
 (.seq (.seq (.sreg uG [])
 (.block 2 (.loop (.seq (.seq (.sreg uF [true,false,false])
 (.cond (tm 33) .skip
 (.exit 2)))
 (.seq (.block 3 (.seq (.sreg uE [true,false,false,false,false])
 (.seq (.seq (.sreg uD [true,false,false,false])
 (.cond (tm 45) (.seq (.sreg uC [])
 .ret)
 .skip))
 (.sreg uB [true,false,false,false,false,false]))))
 (.sreg uA [true,false,false]))))))
 (.seq (.seq (.sreg uz [true,false,false,false,false,false,false,false,false,false,false,false])
 (.cond (tm 84) (.seq (.sreg uy [])
 .ret)
 .skip))
 (.sreg ux [true,false,false,false])))))))))))
 (.seq (.sreg uw [])
 .ret))),[(.tmp 2)]⟩
attribute [push_cast] yx yw yv yu yt yr yq yp yo yn uN uM uL uK uJ uI uH uG uF uE uD uC uB uA uz uy ux uw
theorem Gg:aW Tryz.prog (fun _ _=>1) 78=some xc.raw:=by kernel_rfl
def mE:List SOp :=
 [o1 2 (.mv (.av (.bool false)))]
def mD:List SOp :=
 [o1 3 (.mv (iv 0))]
def mC:List SOp :=
 [o1 4 (.mv (tm 3)),
 o1 5 (.mv (tm 0)),
 o1 6 (.len true (tm 5)),
 o1 7 (.bin .lss (tm 4) (tm 6))]
def mB:List SOp :=
 [o1 10 (.mv (tm 0)),
 o1 11 (.mv (tm 3)),
 o1 12 (.idxS (tm 10) (tm 11)),
 o1 13 (.bin .lss (tm 12) (.av (.int .u8 48))),
 o1 14 (.mv (tm 13)),
 .grp none 14 false
 [og 15 14 false (.mv (tm 0)),
 og 16 14 false (.mv (tm 3)),
 og 17 14 false (.idxS (tm 15) (tm 16)),
 og 18 14 false (.bin .gtr (tm 17) (.av (.int .u8 57)))]
 19 (tm 18)]
def mA:List SOp :=
 [o1 2 (.mv (.av (.bool false)))]
def mz:List SOp :=
 [o1 8 (.mv (tm 3)),
 o1 9 (.bin .add (tm 8) (iv 1)),
 o1 3 (.mv (tm 9))]
def my:List SOp :=
 [o1 20 (.mv (tm 0)),
 o1 21 (.len true (tm 20)),
 o1 22 (.bin .gtr (tm 21) (iv 0)),
 o1 2 (.mv (tm 22))]
def jx:aU:=⟨23,(.seq (.sreg mE [])
 (.seq (.seq (.sreg mD [])
 (.block 0 (.loop (.seq (.seq (.sreg mC [true,false,false,false])
 (.cond (tm 7) .skip
 (.exit 0)))
 (.seq (.block 1 (.seq (.sreg mB [true,false,false,false,false,false])
 (.cond (tm 19) (.seq (.sreg mA [])
 .ret)
 .skip)))
 (.sreg mz [true,false,false]))))))
 (.seq (.sreg my [true,false,false,false])
 .ret))),[(.tmp 2)]⟩
attribute [push_cast] mE mD mC mB mA mz my
theorem CG:aW Tryz.prog (fun _ _=>1) 112=some jx.raw:=by kernel_rfl
def mi:List SOp :=
 [o1 2 (.mv (.av (.bool false)))]
def mh:List SOp :=
 [o1 4 (.mv (tm 0)),
 o1 5 (.bin .eql (tm 4) (.av (.str [48])))]
def mg:List SOp :=
 [o1 2 (.mv (.av (.bool true)))]
def mf:List SOp :=
 [o1 3 (.mv (.av (.str [57,50,50,51,51,55,50,48,51,54,56,53,52,55,55,53,56,48,55])))]
def me:List SOp :=
 [o1 6 (.mv (tm 0)),
 o1 7 (.len true (tm 6)),
 o1 8 (.bin .gtr (tm 7) (iv 0)),
 o1 9 (.mv (tm 8)),
 .grp none 9 true
 [og 10 9 true (.mv (tm 0)),
 og 11 9 true (.idxS (tm 10) (iv 0)),
 og 12 9 true (.bin .eql (tm 11) (.av (.int .u8 45)))]
 13 (tm 12)]
def md:List SOp :=
 [o1 14 (.mv (tm 0)),
 o1 15 (.slS (tm 14) (some (iv 1)) none),
 o1 0 (.mv (tm 15))]
def mc:List SOp :=
 [o1 3 (.mv (.av (.str [57,50,50,51,51,55,50,48,51,54,56,53,52,55,55,53,56,48,56])))]
def mb:List SOp :=
 [o1 16 (.mv (tm 0)),
 o1 17 (.call 112 [(tm 16)]),
 o1 18 (.mv (tm 17)),
 .grp none 18 true
 [og 19 18 true (.mv (tm 0)),
 og 20 18 true (.idxS (tm 19) (iv 0)),
 og 21 18 true (.bin .neq (tm 20) (.av (.int .u8 48)))]
 22 (tm 21),
 o1 23 (.mv (tm 22)),
 .grp none 23 true
 [og 24 23 true (.mv (tm 0)),
 og 25 23 true (.len true (tm 24)),
 og 26 23 true (.bin .lss (tm 25) (iv 19)),
 og 27 23 true (.mv (tm 26)),
 .grp (some (23,true)) 27 false
 [og 28 27 false (.mv (tm 0)),
 og 29 27 false (.len true (tm 28)),
 og 30 27 false (.bin .eql (tm 29) (iv 19)),
 og 31 27 false (.mv (tm 30)),
 .grp (some (27,false)) 31 true
 [og 32 31 true (.mv (tm 0)),
 og 33 31 true (.mv (tm 3)),
 og 34 31 true (.bin .leq (tm 32) (tm 33))]
 35 (tm 34)]
 36 (tm 35)]
 37 (tm 36),
 o1 2 (.mv (tm 37))]
def jv:aU:=⟨38,(.seq (.sreg mi [])
 (.seq (.seq (.sreg mh [true,false])
 (.cond (tm 5) (.seq (.sreg mg [])
 .ret)
 .skip))
 (.seq (.sreg mf [])
 (.seq (.seq (.sreg me [true,false,false,false,false])
 (.cond (tm 13) (.seq (.sreg md [true,false,false])
 (.sreg mc []))
 .skip))
 (.seq (.sreg mb [true,false,false,false,false,false,false])
 .ret))))),[(.tmp 2)]⟩
attribute [push_cast] mi mh mg mf me md mc mb
theorem CE:aW Tryz.prog (fun _ _=>1) 80=some jv.raw:=by kernel_rfl
def yE:List SOp :=
 [o1 2 (.mv (iv 0))]
def yD:List SOp :=
 [o1 3 (.mv (iv 0))]
def yC:List SOp :=
 [o1 4 (.mv (iv 0))]
def yB:List SOp :=
 [o1 5 (.mv (tm 4)),
 o1 6 (.mv (tm 0)),
 o1 7 (.len true (tm 6)),
 o1 8 (.bin .lss (tm 5) (tm 7))]
def yA:List SOp :=
 [o1 11 (.mv (tm 3)),
 o1 12 (.bin .mul (iv 10) (tm 11)),
 o1 13 (.mv (tm 0)),
 o1 14 (.mv (tm 4)),
 o1 15 (.idxS (tm 13) (tm 14)),
 o1 16 (.bin .sub (tm 15) (.av (.int .u8 48))),
 o1 17 (.conv .i64 (tm 16)),
 o1 18 (.bin .add (tm 12) (tm 17)),
 o1 3 (.mv (tm 18))]
def yz:List SOp :=
 [o1 9 (.mv (tm 4)),
 o1 10 (.bin .add (tm 9) (iv 1)),
 o1 4 (.mv (tm 10))]
def yy:List SOp :=
 [o1 19 (.mv (tm 3)),
 o1 2 (.mv (tm 19))]
def xd:aU:=⟨20,(.seq (.sreg yE [])
 (.seq (.sreg yD [])
 (.seq (.seq (.sreg yC [])
 (.block 0 (.loop (.seq (.seq (.sreg yB [true,false,false,false])
 (.cond (tm 8) .skip
 (.exit 0)))
 (.seq (.block 1 (.sreg yA [true,false,false,false,false,false,false,false,false]))
 (.sreg yz [true,false,false]))))))
 (.seq (.sreg yy [true,false])
 .ret)))),[(.tmp 2)]⟩
attribute [push_cast] yE yD yC yB yA yz yy
theorem Gh:aW Tryz.prog (fun _ _=>1) 115=some xd.raw:=by kernel_rfl
def mw:List SOp :=
 [o1 2 (.mv (.av (.bool false)))]
def mu:List SOp :=
 [o1 7 (.mv (tm 0)),
 o1 8 (.len true (tm 7)),
 o1 9 (.bin .neq (tm 8) (iv 15)),
 o1 10 (.mv (tm 9)),
 .grp none 10 false
 [og 11 10 false (.mv (tm 0)),
 og 12 10 false (.slS (tm 11) none (some (iv 14))),
 og 13 10 false (.call 112 [(tm 12)]),
 og 14 10 false (.un .not (tm 13))]
 15 (tm 14),
 o1 16 (.mv (tm 15)),
 .grp none 16 false
 [og 17 16 false (.mv (tm 0)),
 og 18 16 false (.idxS (tm 17) (iv 14)),
 og 19 16 false (.bin .neq (tm 18) (.av (.int .u8 90)))]
 20 (tm 19)]
def mt:List SOp :=
 [o1 2 (.mv (.av (.bool false)))]
def ms:List SOp :=
 [o1 21 (.mv (tm 0)),
 o1 22 (.slS (tm 21) none (some (iv 4))),
 o1 23 (.call 115 [(tm 22)]),
 o1 24 (.mv (tm 0)),
 o1 25 (.slS (tm 24) (some (iv 4)) (some (iv 6))),
 o1 26 (.call 115 [(tm 25)]),
 o1 27 (.mv (tm 0)),
 o1 28 (.slS (tm 27) (some (iv 6)) (some (iv 8))),
 o1 29 (.call 115 [(tm 28)]),
 o1 3 (.mv (tm 23)),
 o1 4 (.mv (tm 26)),
 o1 5 (.mv (tm 29))]
def mq:List SOp :=
 [o1 30 (.mv (tm 4)),
 o1 31 (.bin .lss (tm 30) (iv 1)),
 o1 32 (.mv (tm 31)),
 .grp none 32 false
 [og 33 32 false (.mv (tm 4)),
 og 34 32 false (.bin .gtr (tm 33) (iv 12))]
 35 (tm 34),
 o1 36 (.mv (tm 35)),
 .grp none 36 false
 [og 37 36 false (.mv (tm 5)),
 og 38 36 false (.bin .lss (tm 37) (iv 1))]
 39 (tm 38),
 o1 40 (.mv (tm 39)),
 .grp none 40 false
 [og 41 40 false (.mv (tm 0)),
 og 42 40 false (.slS (tm 41) (some (iv 8)) (some (iv 10))),
 og 43 40 false (.call 115 [(tm 42)]),
 og 44 40 false (.bin .gtr (tm 43) (iv 23))]
 45 (tm 44),
 o1 46 (.mv (tm 45)),
 .grp none 46 false
 [og 47 46 false (.mv (tm 0)),
 og 48 46 false (.slS (tm 47) (some (iv 10)) (some (iv 12))),
 og 49 46 false (.call 115 [(tm 48)]),
 og 50 46 false (.bin .gtr (tm 49) (iv 59))]
 51 (tm 50),
 o1 52 (.mv (tm 51)),
 .grp none 52 false
 [og 53 52 false (.mv (tm 0)),
 og 54 52 false (.slS (tm 53) (some (iv 12)) (some (iv 14))),
 og 55 52 false (.call 115 [(tm 54)]),
 og 56 52 false (.bin .gtr (tm 55) (iv 59))]
 57 (tm 56)]
def mo:List SOp :=
 [o1 2 (.mv (.av (.bool false)))]
def mn:List SOp :=
 [o1 6 (.mv (iv 31))]
def mm:List SOp :=
 [o1 58 (.mv (tm 4)),
 o1 59 (.bin .eql (tm 58) (iv 4)),
 o1 60 (.mv (tm 59)),
 .grp none 60 false
 [og 61 60 false (.mv (tm 4)),
 og 62 60 false (.bin .eql (tm 61) (iv 6))]
 63 (tm 62),
 o1 64 (.mv (tm 63)),
 .grp none 64 false
 [og 65 64 false (.mv (tm 4)),
 og 66 64 false (.bin .eql (tm 65) (iv 9))]
 67 (tm 66),
 o1 68 (.mv (tm 67)),
 .grp none 68 false
 [og 69 68 false (.mv (tm 4)),
 og 70 68 false (.bin .eql (tm 69) (iv 11))]
 71 (tm 70)]
def ml:List SOp :=
 [o1 6 (.mv (iv 30))]
def mj:List SOp :=
 [o1 72 (.mv (tm 4)),
 o1 73 (.bin .eql (tm 72) (iv 2))]
def j8:List SOp :=
 [o1 6 (.mv (iv 28))]
def j7:List SOp :=
 [o1 74 (.mv (tm 3)),
 o1 75 (.bin .rem (tm 74) (iv 400)),
 o1 76 (.bin .eql (tm 75) (iv 0)),
 o1 77 (.mv (tm 76)),
 .grp none 77 false
 [og 78 77 false (.mv (tm 3)),
 og 79 77 false (.bin .rem (tm 78) (iv 4)),
 og 80 77 false (.bin .eql (tm 79) (iv 0)),
 og 81 77 false (.mv (tm 80)),
 .grp (some (77,false)) 81 true
 [og 82 81 true (.mv (tm 3)),
 og 83 81 true (.bin .rem (tm 82) (iv 100)),
 og 84 81 true (.bin .neq (tm 83) (iv 0))]
 85 (tm 84)]
 86 (tm 85)]
def j6:List SOp :=
 [o1 6 (.mv (iv 29))]
def j5:List SOp :=
 [o1 87 (.mv (tm 5)),
 o1 88 (.mv (tm 6)),
 o1 89 (.bin .leq (tm 87) (tm 88)),
 o1 2 (.mv (tm 89))]
def jw:aU:=⟨90,(.seq (.sreg mw [])
 (.seq (.seq (.sreg mu [true,false,false,false,false,false,false])
 (.cond (tm 20) (.seq (.sreg mt [])
 .ret)
 .skip))
 (.seq (.sdreg ms [.pure,(.read 0 0),(.read 0 0),.pure,(.read 0 0),(.read 0 0),.pure,(.read 0 0)] [true,true,true,false,false,false,false,false,false,false,false,false])
 (.seq (.seq (.sreg mq [true,false,false,false,false,false,false,false,false,false,false,false])
 (.cond (tm 57) (.seq (.sreg mo [])
 .ret)
 .skip))
 (.seq (.sreg mn [])
 (.seq (.seq (.sreg mm [true,false,false,false,false,false,false,false])
 (.cond (tm 71) (.sreg ml [])
 .skip))
 (.seq (.seq (.sreg mj [true,false])
 (.cond (tm 73) (.seq (.sreg j8 [])
 (.seq (.sreg j7 [true,false,false,false,false])
 (.cond (tm 86) (.sreg j6 [])
 .skip)))
 .skip))
 (.seq (.sreg j5 [true,false,false,false])
 .ret)))))))),[(.tmp 2)]⟩
attribute [push_cast] mw mu mt ms mq mo mn mm ml mj j8 j7 j6 j5
theorem CF:aW Tryz.prog (fun _ _=>1) 82=some jw.raw:=by kernel_rfl
def uX:List SOp :=
 [o1 4 (.mv (.av (.str []))),
 o1 5 (.mv (.av (.bool false)))]
def uW:List SOp :=
 [o1 9 (.mv (tm 1)),
 o1 10 (.len true (tm 9)),
 o1 11 (.bin .gtr (tm 10) (iv 4096))]
def uV:List SOp :=
 [o1 4 (.mv (.av (.str []))),
 o1 5 (.mv (.av (.bool false)))]
def uU:List SOp :=
 [o1 12 (.mv (tm 0))]
def uT:List SOp :=
 [o1 14 (.bin .eql (tm 12) (iv 1)),
 o1 13 (.mv (tm 14))]
def uS:List SOp :=
 [o1 15 (.mv (tm 1)),
 o1 16 (.len true (tm 15)),
 o1 17 (.bin .gtr (tm 16) (iv 0)),
 o1 18 (.mv (tm 17)),
 .grp none 18 true
 [og 19 18 true (.mv (tm 1)),
 og 20 18 true (.call 78 [(tm 19)])]
 21 (tm 20)]
def uR:List SOp :=
 [o1 22 (.mv (tm 1)),
 o1 23 (.call 79 [(tm 22)]),
 o1 4 (.mv (tm 23)),
 o1 5 (.mv (.av (.bool true)))]
def uQ:List SOp :=
 [o1 25 (.bin .eql (tm 12) (iv 2)),
 o1 24 (.mv (tm 25))]
def uP:List SOp :=
 [o1 26 (.mv (tm 1)),
 o1 27 (.len true (tm 26)),
 o1 28 (.bin .gtr (tm 27) (iv 0)),
 o1 29 (.mv (tm 28)),
 .grp none 29 true
 [og 30 29 true (.mv (tm 1)),
 og 31 29 true (.call 78 [(tm 30)])]
 32 (tm 31)]
def uO:List SOp :=
 [o1 33 (.mv (tm 1)),
 o1 4 (.mv (tm 33)),
 o1 5 (.mv (.av (.bool true)))]
def qC:List SOp :=
 [o1 35 (.bin .eql (tm 12) (iv 3)),
 o1 34 (.mv (tm 35))]
def qB:List SOp :=
 [o1 6 (.mv (iv 0))]
def qA:List SOp :=
 [o1 36 (.mv (tm 6)),
 o1 37 (.mv (tm 1)),
 o1 38 (.len true (tm 37)),
 o1 39 (.bin .lss (tm 36) (tm 38))]
def qz:List SOp :=
 [o1 42 (.mv (tm 1)),
 o1 43 (.mv (tm 6)),
 o1 44 (.idxS (tm 42) (tm 43)),
 o1 45 (.bin .geq (tm 44) (.av (.int .u8 128)))]
def qy:List SOp :=
 [o1 4 (.mv (.av (.str []))),
 o1 5 (.mv (.av (.bool false)))]
def qx:List SOp :=
 [o1 40 (.mv (tm 6)),
 o1 41 (.bin .add (tm 40) (iv 1)),
 o1 6 (.mv (tm 41))]
def qw:List SOp :=
 [o1 46 (.mv (tm 1)),
 o1 47 (.call 79 [(tm 46)]),
 o1 4 (.mv (tm 47)),
 o1 5 (.mv (.av (.bool true)))]
def qv:List SOp :=
 [o1 49 (.bin .eql (tm 12) (iv 4)),
 o1 48 (.mv (tm 49))]
def qu:List SOp :=
 [o1 50 (.mv (tm 1)),
 o1 51 (.call 80 [(tm 50)])]
def qt:List SOp :=
 [o1 52 (.mv (tm 1)),
 o1 4 (.mv (tm 52)),
 o1 5 (.mv (.av (.bool true)))]
def qq:List SOp :=
 [o1 54 (.bin .eql (tm 12) (iv 5)),
 o1 53 (.mv (tm 54))]
def qp:List SOp :=
 [o1 55 (.mv (tm 1)),
 o1 56 (.bin .eql (tm 55) (.av (.str [84,82,85,69]))),
 o1 57 (.mv (tm 56)),
 .grp none 57 false
 [og 58 57 false (.mv (tm 1)),
 og 59 57 false (.bin .eql (tm 58) (.av (.str [70,65,76,83,69])))]
 60 (tm 59)]
def qo:List SOp :=
 [o1 61 (.mv (tm 1)),
 o1 4 (.mv (tm 61)),
 o1 5 (.mv (.av (.bool true)))]
def qn:List SOp :=
 [o1 63 (.bin .eql (tm 12) (iv 6)),
 o1 62 (.mv (tm 63))]
def qm:List SOp :=
 [o1 65 (.mv (tm 1)),
 o1 66 (.call 81 [(tm 65)]),
 o1 64 (.mv (tm 66)),
 o1 67 (.extract (tm 64) 0),
 o1 68 (.extract (tm 64) 1),
 o1 7 (.mv (tm 67)),
 o1 8 (.mv (tm 68))]
def ql:List SOp :=
 [o1 69 (.mv (tm 8)),
 o1 70 (.bin .eql (tm 69) (iv 0))]
def qj:List SOp :=
 [o1 71 (.mv (tm 7)),
 o1 4 (.mv (tm 71)),
 o1 5 (.mv (.av (.bool true)))]
def qi:List SOp :=
 [o1 73 (.bin .eql (tm 12) (iv 7)),
 o1 72 (.mv (tm 73))]
def qh:List SOp :=
 [o1 74 (.mv (tm 1)),
 o1 4 (.mv (tm 74)),
 o1 5 (.mv (.av (.bool true)))]
def qg:List SOp :=
 [o1 76 (.bin .eql (tm 12) (iv 8)),
 o1 75 (.mv (tm 76))]
def qf:List SOp :=
 [o1 77 (.mv (tm 1)),
 o1 78 (.call 82 [(tm 77)])]
def qe:List SOp :=
 [o1 79 (.mv (tm 1)),
 o1 4 (.mv (tm 79)),
 o1 5 (.mv (.av (.bool true)))]
def qd:List SOp :=
 [o1 4 (.mv (.av (.str []))),
 o1 5 (.mv (.av (.bool false)))]
def o9:aU:=⟨80,(.seq (.sreg uX [])
 (.seq (.seq (.sreg uW [true,false,false])
 (.cond (tm 11) (.seq (.sreg uV [])
 .ret)
 .skip))
 (.seq (.seq (.sreg uU [])
 (.block 0 (.seq (.sreg uT [true,false])
 (.cond (tm 13) (.seq (.sreg uS [true,false,false,false,false])
 (.cond (tm 21) (.seq (.sreg uR [true,true,false,false])
 .ret)
 .skip))
 (.seq (.sreg uQ [true,false])
 (.cond (tm 24) (.seq (.sreg uP [true,false,false,false,false])
 (.cond (tm 32) (.seq (.sreg uO [true,true,false])
 .ret)
 .skip))
 (.seq (.sreg qC [true,false])
 (.cond (tm 34) (.seq (.seq (.sreg qB [])
 (.block 1 (.loop (.seq (.seq (.sreg qA [true,false,false,false])
 (.cond (tm 39) .skip
 (.exit 1)))
 (.seq (.block 2 (.seq (.sreg qz [true,false,false,false])
 (.cond (tm 45) (.seq (.sreg qy [])
 .ret)
 .skip)))
 (.sreg qx [true,false,false]))))))
 (.seq (.sreg qw [true,true,false,false])
 .ret))
 (.seq (.sreg qv [true,false])
 (.cond (tm 48) (.seq (.sreg qu [true,false])
 (.cond (tm 51) (.seq (.sreg qt [true,true,false])
 .ret)
 .skip))
 (.seq (.sreg qq [true,false])
 (.cond (tm 53) (.seq (.sreg qp [true,false,false,false])
 (.cond (tm 60) (.seq (.sreg qo [true,true,false])
 .ret)
 .skip))
 (.seq (.sreg qn [true,false])
 (.cond (tm 62) (.seq (.sreg qm [true,true,false,false,false,false,false])
 (.seq (.sreg ql [true,false])
 (.cond (tm 70) (.seq (.sreg qj [true,true,false])
 .ret)
 .skip)))
 (.seq (.sreg qi [true,false])
 (.cond (tm 72) (.seq (.sreg qh [true,true,false])
 .ret)
 (.seq (.sreg qg [true,false])
 (.cond (tm 75) (.seq (.sreg qf [true,false])
 (.cond (tm 78) (.seq (.sreg qe [true,true,false])
 .ret)
 .skip))
 .skip))))))))))))))))))
 (.seq (.sreg qd [])
 .ret)))),[(.tmp 4),(.tmp 5)]⟩
attribute [push_cast] uX uW uV uU uT uS uR uQ uP uO qC qB qA qz qy qx qw qv qu qt qq qp qo qn qm ql qj qi qh qg qf qe qd
theorem Ex:aW Tryz.prog (fun _ _=>1) 52=some o9.raw:=by kernel_rfl
def pA:List SOp :=
 [o1 4 (.mv (.av (.str []))),
 o1 5 (.mv (.av (.bool false)))]
def pz:List SOp :=
 [o1 10 (.mv (tm 1)),
 o1 11 (.len true (tm 10)),
 o1 12 (.bin .gtr (tm 11) (iv 4096))]
def py:List SOp :=
 [o1 4 (.mv (.av (.str []))),
 o1 5 (.mv (.av (.bool false)))]
def pw:List SOp :=
 [o1 13 (.mv (tm 1)),
 o1 6 (.mv (tm 13)),
 o1 7 (.mv (.av (.bool false)))]
def pu:List SOp :=
 [o1 14 (.mv (tm 0))]
def pt:List SOp :=
 [o1 16 (.bin .eql (tm 14) (iv 1)),
 o1 15 (.mv (tm 16))]
def pr:List SOp :=
 [o1 17 (.mv (tm 1)),
 o1 18 (.call 117 [(tm 17)]),
 o1 19 (.mv (tm 1)),
 o1 20 (.bin .neq (tm 19) (.av (.str []))),
 o1 21 (.mv (tm 20)),
 .grp none 21 true
 [og 22 21 true (.mv (tm 1)),
 og 23 21 true (.call 118 [(tm 22)])]
 24 (tm 23),
 o1 6 (.mv (tm 18)),
 o1 7 (.mv (tm 24))]
def pq:List SOp :=
 [o1 26 (.bin .eql (tm 14) (iv 2)),
 o1 25 (.mv (tm 26))]
def pp:List SOp :=
 [o1 27 (.mv (tm 1)),
 o1 28 (.bin .neq (tm 27) (.av (.str []))),
 o1 29 (.mv (tm 28)),
 .grp none 29 true
 [og 30 29 true (.mv (tm 1)),
 og 31 29 true (.call 118 [(tm 30)])]
 32 (tm 31),
 o1 7 (.mv (tm 32))]
def po:List SOp :=
 [o1 34 (.bin .eql (tm 14) (iv 3)),
 o1 33 (.mv (tm 34))]
def lr:List SOp :=
 [o1 35 (.mv (tm 1)),
 o1 36 (.call 117 [(tm 35)]),
 o1 37 (.mv (tm 1)),
 o1 38 (.call 119 [(tm 37),(.av (.func 120 []))]),
 o1 39 (.bin .lss (tm 38) (iv 0)),
 o1 6 (.mv (tm 36)),
 o1 7 (.mv (tm 39))]
def lq:List SOp :=
 [o1 41 (.bin .eql (tm 14) (iv 4)),
 o1 40 (.mv (tm 41))]
def lp:List SOp :=
 [o1 43 (.mv (tm 1)),
 o1 44 (.call 121 [(tm 43)]),
 o1 42 (.mv (tm 44)),
 o1 45 (.extract (tm 42) 0),
 o1 46 (.extract (tm 42) 1),
 o1 7 (.mv (tm 46))]
def ln:List SOp :=
 [o1 48 (.bin .eql (tm 14) (iv 5)),
 o1 47 (.mv (tm 48))]
def lm:List SOp :=
 [o1 49 (.mv (tm 1)),
 o1 50 (.bin .eql (tm 49) (.av (.str [84,82,85,69]))),
 o1 51 (.mv (tm 50)),
 .grp none 51 false
 [og 52 51 false (.mv (tm 1)),
 og 53 51 false (.bin .eql (tm 52) (.av (.str [70,65,76,83,69])))]
 54 (tm 53),
 o1 7 (.mv (tm 54))]
def ll:List SOp :=
 [o1 56 (.bin .eql (tm 14) (iv 6)),
 o1 55 (.mv (tm 56))]
def lk:List SOp :=
 [o1 58 (.mv (tm 1)),
 o1 59 (.call 122 [(tm 58)]),
 o1 57 (.mv (tm 59)),
 o1 60 (.extract (tm 57) 0),
 o1 61 (.extract (tm 57) 1),
 o1 8 (.mv (tm 60)),
 o1 9 (.mv (tm 61))]
def lh:List SOp :=
 [o1 62 (.mv (tm 8)),
 o1 63 (.mv (tm 9)),
 o1 64 (.bin .eql (tm 63) (iv 0)),
 o1 6 (.mv (tm 62)),
 o1 7 (.mv (tm 64))]
def k9:List SOp :=
 [o1 66 (.bin .eql (tm 14) (iv 7)),
 o1 65 (.mv (tm 66))]
def k8:List SOp :=
 [o1 7 (.mv (.av (.bool true)))]
def k7:List SOp :=
 [o1 68 (.bin .eql (tm 14) (iv 8)),
 o1 67 (.mv (tm 68))]
def kZ:List SOp :=
 [o1 69 (.mv (tm 1)),
 o1 70 (.call 123 [(tm 69)]),
 o1 7 (.mv (tm 70))]
def kY:List SOp :=
 [o1 71 (.mv (tm 7)),
 o1 72 (.un .not (tm 71))]
def kX:List SOp :=
 [o1 4 (.mv (.av (.str []))),
 o1 5 (.mv (.av (.bool false)))]
def kW:List SOp :=
 [o1 73 (.mv (tm 6)),
 o1 4 (.mv (tm 73)),
 o1 5 (.mv (.av (.bool true)))]
def kF:aU:=⟨74,(.seq (.sreg pA [])
 (.seq (.seq (.sreg pz [true,false,false])
 (.cond (tm 12) (.seq (.sreg py [])
 .ret)
 .skip))
 (.seq (.sreg pw [true,true,false])
 (.seq (.seq (.sreg pu [])
 (.block 0 (.seq (.sreg pt [true,false])
 (.cond (tm 15) (.sreg pr [true,true,false,false,false,false,false,false])
 (.seq (.sreg pq [true,false])
 (.cond (tm 25) (.sreg pp [true,false,false,false,false])
 (.seq (.sreg po [true,false])
 (.cond (tm 33) (.sreg lr [true,true,false,false,false,false,false])
 (.seq (.sreg lq [true,false])
 (.cond (tm 40) (.sreg lp [true,false,false,false,false,false])
 (.seq (.sreg ln [true,false])
 (.cond (tm 47) (.sreg lm [true,false,false,false,false])
 (.seq (.sreg ll [true,false])
 (.cond (tm 55) (.seq (.sreg lk [true,true,false,false,false,false,false])
 (.sreg lh [true,true,false,false,false]))
 (.seq (.sreg k9 [true,false])
 (.cond (tm 65) (.sreg k8 [])
 (.seq (.sreg k7 [true,false])
 (.cond (tm 67) (.sreg kZ [true,false,false])
 .skip))))))))))))))))))
 (.seq (.seq (.sreg kY [true,false])
 (.cond (tm 72) (.seq (.sreg kX [])
 .ret)
 .skip))
 (.seq (.sreg kW [true,true,false])
 .ret)))))),[(.tmp 4),(.tmp 5)]⟩
attribute [push_cast] pA pz py pw pu pt pr pq pp po lr lq lp ln lm ll lk lh k9 k8 k7 kZ kY kX kW
theorem Di:aW Tryz.prog (fun _ _=>1) 87=some kF.raw:=by kernel_rfl
set_option maxHeartbeats 8000000
set_option maxRecDepth 100000
theorem KV {x:Int} {L:List Blk} {K:AV→List Blk→Prop} (h:K (.bool (decide ((128:Int)≤x))) L):af Tryz.prog 120 [.int .i32 x] L K:=by
 replace h:=hid h
 refine ai Am (by simp [iw]) ?_
 simp only [iw,ar]
 refine wk ?_
 exact aa h.out
def Dz (s:List UInt8):Bool:=s.all fun c=>decide (c.toNat<128)
theorem Uz {s:List UInt8} (hs:s.length≤1000000) {L:List Blk} {K:AV→List Blk→Prop} (hno:Dz s=true→K (.int .i64 (-1)) L) (hyes:∀ k:Nat,Dz s=false→K (.int .i64 (k:Int)) L) :
   af Tryz.prog 152 [.str s,.func 120 [],.bool true] L K:=by
 replace hno:=hid hno
 replace hyes:=hid hyes
 refine ai oZ (by simp [fa]) ?_
 simp only [fa,ar]
 refine wk ?_
 refine am (fun n T' L'=>∃ p,n=s.length - p∧p≤s.length∧Hid (Dz (s.take p)=true)∧T'=[(10,.ptr L.length 0),(1,.func 120 []),(2,.bool true)]∧L'=L++[.siter s p]) (CutS (b:=by simp)) ⟨0,rfl,Nat.zero_le _,hid rfl,rfl,rfl⟩ ?_
 rintro _ _ _ ⟨p,rfl,hp,hall,rfl,rfl⟩
 by_cases hlt:p<s.length
 · obtain ⟨c,hc⟩:∃ c,s.getD p 0=c:=⟨_,rfl⟩
   have hr:=c.toNat_lt
   have htk:s.take (p+1)=s.take p++[c]:=by rw [List.take_succ_eq_append_getElem hlt,← hc];simp [hlt]
   have hnext:Dz (s.take (p+1))=decide (c.toNat<128):=by
     have:=hall.out
     unfold Dz at this ⊢
     rw [htk,List.all_append,this];simp
   by_cases ha:c.toNat<128
   · have hd:=F4 hlt (by rw [hc];exact ha)
     rw [hc] at hd
     have w0:IntKind.i32.wrap (c.toNat:Int)=(c.toNat:Int):=E9 (by omega) (by omega)
     have f1:¬ (128:Int)≤(c.toNat:Int):=by omega
     replace hnext:=hid (hnext.trans (decide_eq_true ha))
     clear hc ha htk
     have kk1:=@hid _ @KV
     refine wk ?_
     exact aj _ _ _ (by omega) (CutS (b:=by simp)) ⟨p+1,rfl,hlt,hnext,rfl,rfl⟩
   · have hh:=Hm hlt (by rw [hc];omega)
     obtain ⟨⟨x,wd⟩,hd⟩:∃ q,Er s p=q:=⟨_,rfl⟩
     rw [hd] at hh
     simp only at hh
     have f1:(128:Int)≤(x:Int):=by omega
     have hbad:Dz s=false:=by
       rw [← Bool.not_eq_true]
       intro e
       have hm:c∈s:=by rw [← hc];simp [hlt]
       have:=List.all_eq_true.1 e c hm
       simp at this;omega
     have h':=hid (hyes.out p hbad)
     clear hc ha htk hnext hbad
     have kk1:=@hid _ @KV
     refine wk ?_
     exact ad rfl h'.out
 · have hke:p=s.length:=by omega
   subst hke
   have h1:=hall.out
   rw [List.take_length] at h1
   have h':=hid (hno.out h1)
   clear h1
   refine wk ?_
   exact ad rfl h'.out
theorem O8 {s:List UInt8} (hs:s.length≤1000000) {L:List Blk} {K:AV→List Blk→Prop} (hno:Dz s=true→K (.int .i64 (-1)) L) (hyes:∀ k:Nat,Dz s=false→K (.int .i64 (k:Int)) L) :
   af Tryz.prog 119 [.str s,.func 120 []] L K:=by
 replace hno:=hid hno
 replace hyes:=hid hyes
 refine ai o3 (by simp [fc]) ?_
 simp only [fc,ar]
 refine wk ?_
 refine Uz hs (fun e=>?_) (fun k e=>?_)
 · have h':=hid (hno.out e)
   refine sk ?_
   refine wk ?_
   exact aa h'.out
 · have h':=hid (hyes.out k e)
   refine sk ?_
   refine wk ?_
   exact aa h'.out
def dig (v:List UInt8) (i:Nat):Nat:=(v.getD i 0).toNat - 48
def two (v:List UInt8) (i:Nat):Nat:=10 * dig v i+dig v (i+1)
def d8 (c:UInt8):Bool:=decide (48≤c.toNat) && decide (c.toNat≤57)
def O2 (y:Nat):Bool:=decide (y % 4=0) && !decide (y % 100=0) || decide (y % 400=0)
def H3 (m:Nat):Nat:=if m=2 then 28 else if m=4∨m=6∨m=9∨m=11 then 30 else 31
def Hb (y m:Nat):Nat:=if m=2∧O2 y=true then H3 m+1 else H3 m
def Ji (v:List UInt8):Bool:=decide ((1≤two v 4∧two v 4≤12)∧1≤two v 6∧two v 8≤23∧two v 10≤59∧two v 12≤59) && decide (two v 6≤Hb (two v 0 * 100+two v 2) (two v 4))
def wU (v:List UInt8):Bool:=decide (v.length=15) && decide (v.getD 14 0=90) && (v.take 14).all d8 && Ji v
theorem Vk {v:List UInt8} {i p:Nat} {z:Int} (hz:z=(i:Int)) (hi:i+1<v.length) (hv:v.length≤1000) (h1:d8 (v.getD i 0)=true) (h2:d8 (v.getD (i+1) 0)=true) {L:List Blk} {K:AV→List Blk→Prop} (hL:L[p]?=some (.cells [.str v])) (h:K (.int .i64 (two v i:Nat)) L) :
   af Tryz.prog 155 [.int .i64 z,.ptr p 0] L K:=by
 subst hz
 unfold two dig at h
 obtain ⟨a,ha⟩:∃ a,v.getD i 0=a:=⟨_,rfl⟩
 obtain ⟨b,hb⟩:∃ b,v.getD (i+1) 0=b:=⟨_,rfl⟩
 rw [ha] at h1 h
 rw [hb] at h2 h
 simp only [d8,Bool.and_eq_true,decide_eq_true_eq] at h1 h2
 obtain ⟨x,hx⟩:∃ x:Nat,a.toNat=48+x:=⟨a.toNat - 48,by omega⟩
 obtain ⟨y,hy⟩:∃ y:Nat,b.toNat=48+y:=⟨b.toNat - 48,by omega⟩
 have hx9:x≤9:=by omega
 have hy9:y≤9:=by omega
 rw [show 10 * (a.toNat - 48)+(b.toNat - 48)=10 * x+y by omega] at h
 have hxa:(a.toNat:Int)=48+(x:Int):=by omega
 have hyb:(b.toNat:Int)=48+(y:Int):=by omega
 have g1:(i:Int)<(v.length:Int):=by omega
 have g2:IntKind.i64.wrap ((i:Int)+1)=(i:Int)+1:=ab (by omega) (by omega)
 have g3:(i:Int)+1<(v.length:Int):=by omega
 have g4:((i:Int)+1).toNat=i+1:=by omega
 have g5:(0:Int)≤(i:Int)+1:=by omega
 have w1:IntKind.u8.wrap (48+(x:Int) - 48)=(x:Int):=by rw [b7 (by omega) (by omega)];omega
 have w2:IntKind.u8.wrap (48+(y:Int) - 48)=(y:Int):=by rw [b7 (by omega) (by omega)];omega
 have w3:IntKind.i64.wrap (x:Int)=(x:Int):=ab (by omega) (by omega)
 have w4:IntKind.i64.wrap (y:Int)=(y:Int):=ab (by omega) (by omega)
 have w5:IntKind.i64.wrap ((x:Int) * 10)=(x:Int) * 10:=ab (by omega) (by omega)
 have w6:IntKind.i64.wrap ((x:Int) * 10+(y:Int))=(x:Int) * 10+(y:Int):=ab (by omega) (by omega)
 have hfin:K (.int .i64 ((x:Int) * 10+(y:Int))) L:=by
   rwa [show ((10 * x+y:Nat):Int)=(x:Int) * 10+(y:Int) by omega] at h
 replace hfin:=hid hfin
 clear h h1 h2 hx hy
 refine ai w9 (by simp [fQ]) ?_
 simp only [fQ,ar]
 refine wk ?_
 exact aa hfin.out
set_option maxHeartbeats 8000000
set_option maxRecDepth 100000
theorem Tj {m:Nat} (h1:1≤m) (h2:m≤12) {l:List AV} (hl:dw 4=some l):l.getD (m - 1) .undef=.int .i64 (H3 m:Nat)∧l.length=12:=by
 have e:dw 4=some [.int .i64 31,.int .i64 28,.int .i64 31,.int .i64 30,.int .i64 31,.int .i64 30,.int .i64 31,.int .i64 31,.int .i64 30,.int .i64 31,.int .i64 30,.int .i64 31]:=by rfl
 rw [e] at hl
 cases hl
 have:m=1∨m=2∨m=3∨m=4∨m=5∨m=6∨m=7∨m=8∨m=9∨m=10∨m=11∨m=12:=by omega
 rcases this with rfl|rfl|rfl|rfl|rfl|rfl|rfl|rfl|rfl|rfl|rfl|rfl<;>exact ⟨rfl,rfl⟩
theorem fF {v:List UInt8} {i:Nat} (h1:d8 (v.getD i 0)=true) (h2:d8 (v.getD (i+1) 0)=true):two v i≤99:=by
 simp only [d8,Bool.and_eq_true,decide_eq_true_eq] at h1 h2
 unfold two dig;omega
theorem IL {v:List UInt8} (hv:v.length≤1000000) {L:List Blk} {K:AV→List Blk→Prop} (h:K (.bool (wU v)) L):af Tryz.prog 123 [.str v] L K:=by
 have no:wU v=false→K (.bool false) L:=fun e=>by rw [← e];exact h
 replace no:=hid no
 replace h:=hid h
 refine ai Al (by simp [iu]) ?_
 simp only [iu,ar]
 by_cases h15:v.length=15
 rotate_left
 · have f1:¬ (v.length:Int)=15:=by omega
   have h':=hid (no.out (by simp [wU,h15]))
   clear h15
   refine wk ?_
   exact ad rfl h'.out
 have f1:(v.length:Int)=15:=by omega
 obtain ⟨z,hz⟩:∃ z,v.getD 14 0=z:=⟨_,rfl⟩
 by_cases h90:z=90
 rotate_left
 · have f2:¬ (z.toNat:Int)=90:=fun e=>h90 ((aZ z 90).1 e)
   have h':=hid (no.out (by simp [wU,← hz] at h90 ⊢;simp [h90]))
   clear h90
   refine wk ?_
   exact ad rfl h'.out
 have f2:(z.toNat:Int)=90:=by rw [h90];rfl
 obtain ⟨w,hw⟩:∃ w,v.take 14=w:=⟨_,rfl⟩
 have hwl:w.length=14:=by rw [← hw];simp [h15]
 have f3:(14:Int)≤(v.length:Int):=by omega
 have hul:(u8s w).length=14:=by simp [u8s,hwl]
 have hdall:=hid (show w.all d8=false→K (.bool false) L from fun e=>no.out (by simp [wU,hw,e]))
 replace hw:=hid hw
 have hw':v.take 14=w:=hw.out
 have f4:(0:Int)≤14:=by omega
 refine wk ?_
 refine am (fun n T' L'=>∃ i:Nat,n=14 - i∧i≤14∧Hid ((w.take i).all d8=true)∧T'=[(22,.int .i64 (i:Int)),(21,.int .i64 14),(20,.sl (u8s w) 14 none),(1,.ptr L.length 0)]∧L'=L++[.cells [.str v]]) (CutS (b:=by simp)) ⟨0,rfl,Nat.zero_le _,hid rfl,rfl,rfl⟩ ?_
 rintro _ _ _ ⟨i,rfl,hi,hall,rfl,rfl⟩
 by_cases hlt:i<14
 · have g1:(i:Int)<14:=by omega
   have g2:IntKind.i64.wrap ((i:Int)+1)=(i:Int)+1:=ab (by omega) (by omega)
   obtain ⟨c,hc⟩:∃ c,w.getD i 0=c:=⟨_,rfl⟩
   have g3:(u8s w).getD i .undef=.int .u8 c.toNat:=by rw [← hc];simp [u8s,show i<w.length by omega]
   have hm:c∈w:=by rw [← hc];simp [show i<w.length by omega]
   have htk:w.take (i+1)=w.take i++[c]:=by rw [List.take_succ_eq_append_getElem (by omega),← hc];simp [show i<w.length by omega]
   have bad:=hid fun (e:d8 c=false)=>hdall.out (List.all_eq_false.2 ⟨c,hm,by rw [e];simp⟩)
   have good:=hid fun (e:d8 c=true)=>show (w.take (i+1)).all d8=true by rw [htk,List.all_append,hall.out];simp [e]
   clear hc hm htk hw' h15 hwl
   repeat' first
     | refine a8 ?_
     | (first|refine aM (by kernel_rfl) ?_|refine aA (by kernel_rfl) ?_|refine aB ?_|refine bV ?_|refine bc (fun _=>?_)|refine au ?_|refine aT ?_)
       refine sm ?_
     | (first|refine aP (by kernel_rfl) ?_|refine aN ?_|refine aO ?_|refine ba (ax ?_))
       refine sl ?_
     | exact bd
     | first|apply be|apply aQ|apply bf|apply aR|apply bg|apply aS
     | refine aC ?_
     | first|refine aD rfl ?_|refine aE rfl ?_|refine ao rfl ?_ ?_|refine aH rfl (fun _=>?_) (fun _=>?_)|refine aG rfl (fun _=>?_) (fun _=>?_)
     | ((first|refine an (fun _=>?_) (fun _=>?_)|refine aw (fun _=>?_) (fun _=>?_))<;>try refine sm ?_)
     | refine And.intro trivial ?_
     | refine And.intro (by omega) ?_
     | refine aI rfl (fun _=>?_) (fun _=>?_)
     | refine And.intro ?_ ?_
   · rename_i hx
     refine ad rfl (bad.out ?_)
     simp only [d8,Bool.and_eq_false_iff,decide_eq_false_iff_not]
     omega
   · rename_i hx
     refine aj _ _ _ (by omega) (CutL (b:=by simp)) ⟨i+1,rfl,by omega,hid (good.out ?_),rfl,rfl⟩
     simp only [d8,Bool.and_eq_true,decide_eq_true_eq]
     omega
 have hke:i=14:=by omega
 subst hke
 have g1:¬ ((14:Nat):Int)<14:=by omega
 have hda:=hall.out
 rw [List.take_of_length_le (by omega)] at hda
 have hdv:∀ i,i<14→d8 (v.getD i 0)=true:=fun i hi=>by
   refine List.all_eq_true.1 hda _ ?_
   rw [← hw.out]
   have:v.getD i 0=(v.take 14)[i]'(by simp;omega):=by simp [show i<v.length by omega]
   rw [this];exact List.getElem_mem _
 have hdate:wU v=Ji v:=by
   simp only [wU,h15,hz,h90,hw.out,hda];simp
 have ct:∀ i:Nat,i+1<14→∀ (z:Int) (K:AV→List Blk→Prop),z=(i:Int)→K (.int .i64 (two v i:Nat)) (L++[.cells [.str v]])→af Tryz.prog 155 [.int .i64 z,.ptr L.length 0] (L++[.cells [.str v]]) K:=fun i hi z K hz h =>
   Vk hz (by omega) (by omega) (hdv i (by omega)) (hdv (i+1) hi) (EU _ _ _) h
 have b0:=fF (hdv 0 (by omega)) (hdv 1 (by omega))
 have b2:=fF (hdv 2 (by omega)) (hdv 3 (by omega))
 have b4:=fF (hdv 4 (by omega)) (hdv 5 (by omega))
 have b6:=fF (hdv 6 (by omega)) (hdv 7 (by omega))
 have b8:=fF (hdv 8 (by omega)) (hdv 9 (by omega))
 have b10:=fF (hdv 10 (by omega)) (hdv 11 (by omega))
 have b12:=fF (hdv 12 (by omega)) (hdv 13 (by omega))
 have kk1:=@hid _ (fun {K:AV→List Blk→Prop}=>ct 0 (by omega) 0 K rfl)
 have kk2:=@hid _ (fun {K:AV→List Blk→Prop}=>ct 2 (by omega) 2 K rfl)
 have kk3:=@hid _ (fun {K:AV→List Blk→Prop}=>ct 4 (by omega) 4 K rfl)
 have kk4:=@hid _ (fun {K:AV→List Blk→Prop}=>ct 6 (by omega) 6 K rfl)
 have kk5:=@hid _ (fun {K:AV→List Blk→Prop}=>ct 8 (by omega) 8 K rfl)
 have kk6:=@hid _ (fun {K:AV→List Blk→Prop}=>ct 10 (by omega) 10 K rfl)
 have kk7:=@hid _ (fun {K:AV→List Blk→Prop}=>ct 12 (by omega) 12 K rfl)
 have hfin:=h.out
 rw [hdate] at hfin
 unfold Ji at hfin
 obtain ⟨Y,hY⟩:∃ n,two v 0=n:=⟨_,rfl⟩
 obtain ⟨Y2,hY2⟩:∃ n,two v 2=n:=⟨_,rfl⟩
 obtain ⟨M,hM⟩:∃ n,two v 4=n:=⟨_,rfl⟩
 obtain ⟨D,hD⟩:∃ n,two v 6=n:=⟨_,rfl⟩
 obtain ⟨H,hH⟩:∃ n,two v 8=n:=⟨_,rfl⟩
 obtain ⟨I,hI⟩:∃ n,two v 10=n:=⟨_,rfl⟩
 obtain ⟨S,hS⟩:∃ n,two v 12=n:=⟨_,rfl⟩
 rw [hY] at b0 hfin kk1
 rw [hY2] at b2 hfin kk2
 rw [hM] at b4 hfin kk3
 rw [hD] at b6 hfin kk4
 rw [hH] at b8 hfin kk5
 rw [hI] at b10 hfin kk6
 rw [hS] at b12 hfin kk7
 clear hY hY2 hM hD hH hI hS ct hdate hdv hda hall hw' hw hdall h15 hwl hul hi hlt f1 f2 f3 f4 hv h90 hz no h
 have w1:IntKind.i64.wrap ((Y:Int) * 100)=(Y:Int) * 100:=ab (by omega) (by omega)
 have w2:IntKind.i64.wrap ((Y:Int) * 100+(Y2:Int))=(Y:Int) * 100+(Y2:Int):=ab (by omega) (by omega)
 have hbad:¬ ((1≤M∧M≤12)∧1≤D∧H≤23∧I≤59∧S≤59)→K (.bool false) L:=fun e=>by
   rw [decide_eq_false e] at hfin;simpa using hfin
 replace hbad:=hid hbad
 replace hfin:=hid hfin
 by_cases m1:(M:Int)<1
 · refine wk ?_
   exact ad rfl (hbad.out (by omega))
 by_cases m2:(12:Int)<(M:Int)
 · refine wk ?_
   exact ad rfl (hbad.out (by omega))
 by_cases m3:(D:Int)<1
 · refine wk ?_
   exact ad rfl (hbad.out (by omega))
 by_cases m4:(23:Int)<(H:Int)
 · refine wk ?_
   exact ad rfl (hbad.out (by omega))
 by_cases m5:(59:Int)<(I:Int)
 · refine wk ?_
   exact ad rfl (hbad.out (by omega))
 by_cases m6:(59:Int)<(S:Int)
 · refine wk ?_
   exact ad rfl (hbad.out (by omega))
 have hgood:=hid (show decide (D≤Hb (Y * 100+Y2) M)=true∨decide (D≤Hb (Y * 100+Y2) M)=false by cases decide (D≤Hb (Y * 100+Y2) M)<;>simp)
 have hfin2:=hfin.out
 rw [show decide ((1≤M∧M≤12)∧1≤D∧H≤23∧I≤59∧S≤59)=true by simp;omega,Bool.true_and] at hfin2
 unfold Hb O2 at hfin2
 obtain ⟨dn,hdn⟩:∃ n,H3 M=n:=⟨_,rfl⟩
 have hdb:dn≤31:=by rw [← hdn];unfold H3;split<;>(try split)<;>omega
 obtain ⟨r4,hr4⟩:∃ r,(Y * 100+Y2) % 4=r:=⟨_,rfl⟩
 obtain ⟨r100,hr100⟩:∃ r,(Y * 100+Y2) % 100=r:=⟨_,rfl⟩
 obtain ⟨r400,hr400⟩:∃ r,(Y * 100+Y2) % 400=r:=⟨_,rfl⟩
 rw [hr4,hr100,hr400,hdn] at hfin2
 have t4:Int.tmod ((Y:Int) * 100+(Y2:Int)) 4=(r4:Int):=by rw [Int.tmod_eq_emod_of_nonneg (by omega)];omega
 have t100:Int.tmod ((Y:Int) * 100+(Y2:Int)) 100=(r100:Int):=by rw [Int.tmod_eq_emod_of_nonneg (by omega)];omega
 have t400:Int.tmod ((Y:Int) * 100+(Y2:Int)) 400=(r400:Int):=by rw [Int.tmod_eq_emod_of_nonneg (by omega)];omega
 have x1:IntKind.i64.wrap ((M:Int) - 1)=(M:Int) - 1:=ab (by omega) (by omega)
 have x2:((M:Int) - 1).toNat=M - 1:=by omega
 have x3:(0:Int)≤(M:Int) - 1:=by omega
 have x4:(M:Int) - 1<12:=by omega
 obtain ⟨x5,x6⟩:=Tj (m:=M) (by omega) (by omega) Jd
 rw [hdn] at x5
 have x7:IntKind.i64.wrap ((dn:Int)+1)=(dn:Int)+1:=ab (by omega) (by omega)
 replace hfin2:=hid hfin2
 clear hr4 hr100 hr400 hdn hgood
 repeat' first
   | refine a8 ?_
   | (first|refine aM (by kernel_rfl) ?_|refine aA (by kernel_rfl) ?_|refine aB ?_|refine bV ?_|refine bc (fun _=>?_)|refine au ?_|refine aT ?_|refine kk1.out ?_|refine kk2.out ?_|refine kk3.out ?_|refine kk4.out ?_|refine kk5.out ?_|refine kk6.out ?_|refine kk7.out ?_|refine aV (kk1.out ⟨rfl,rfl⟩) (kk1.out ⟨rfl,rfl⟩) ?_|refine aV (kk2.out ⟨rfl,rfl⟩) (kk2.out ⟨rfl,rfl⟩) ?_|refine aV (kk3.out ⟨rfl,rfl⟩) (kk3.out ⟨rfl,rfl⟩) ?_|refine aV (kk4.out ⟨rfl,rfl⟩) (kk4.out ⟨rfl,rfl⟩) ?_|refine aV (kk5.out ⟨rfl,rfl⟩) (kk5.out ⟨rfl,rfl⟩) ?_|refine aV (kk6.out ⟨rfl,rfl⟩) (kk6.out ⟨rfl,rfl⟩) ?_|refine aV (kk7.out ⟨rfl,rfl⟩) (kk7.out ⟨rfl,rfl⟩) ?_|refine aK (kk1.out ⟨rfl,rfl⟩) ?_|refine aK (kk2.out ⟨rfl,rfl⟩) ?_|refine aK (kk3.out ⟨rfl,rfl⟩) ?_|refine aK (kk4.out ⟨rfl,rfl⟩) ?_|refine aK (kk5.out ⟨rfl,rfl⟩) ?_|refine aK (kk6.out ⟨rfl,rfl⟩) ?_|refine aK (kk7.out ⟨rfl,rfl⟩) ?_)
     refine sm ?_
   | (first|refine aP (by kernel_rfl) ?_|refine aN ?_|refine aO ?_|refine ba (ax ?_))
     refine sl ?_
   | exact bd
   | first|apply be|apply aQ|apply bf|apply aR|apply bg|apply aS
   | refine aC ?_
   | first|refine aD rfl ?_|refine aE rfl ?_|refine ao rfl ?_ ?_|refine aH rfl (fun _=>?_) (fun _=>?_)|refine aG rfl (fun _=>?_) (fun _=>?_)
   | ((first|refine an (fun _=>?_) (fun _=>?_)|refine aw (fun _=>?_) (fun _=>?_))<;>try refine sm ?_)
   | refine And.intro trivial ?_
   | refine And.intro (by omega) ?_
   | refine aI rfl (fun _=>?_) (fun _=>?_)
   | refine And.intro ?_ ?_
 · rename_i hx
   refine ad rfl ?_
   have e:=hfin2.out
   rw [if_pos ⟨by omega,by simp;omega⟩] at e
   rwa [show decide (D≤dn+1)=decide ((D:Int)≤(dn:Int)+1) by simp only [decide_eq_decide];omega] at e
 · rename_i hx
   refine ad rfl ?_
   have e:=hfin2.out
   rw [if_neg (fun ⟨e1,e2⟩=>hx ⟨by omega,by simp at e2;omega⟩)] at e
   rwa [show decide (D≤dn)=decide ((D:Int)≤(dn:Int)) by simp only [decide_eq_decide];omega] at e
set_option maxHeartbeats 8000000
set_option maxRecDepth 100000
theorem OB:dw 0=some (Lib.pow10Tab.map (AV.int .u64)):=by rfl
theorem LG:Tryz.prog.globalNamed "internal/strconv.uint64pow10" = some 0:=by kernel_rfl
theorem Vs {n:Int} (hn:I64 n) {L:List Blk} {K:AV→List Blk→Prop} (h:K (.str (Lib.itoa n)) L):af Tryz.prog 44 [.int .i64 n,.int .i64 10] L K :=
 d9 Tryz.func44 rfl (by kernel_rfl) (fun w0 S0 E w vs hR hv=>by
   simp only [VRL,VR] at hv
   obtain ⟨_,_,rfl,rfl,_,_,rfl,rfl,rfl⟩:=hv
   refine (Tryz.strconv_FormatInt_10 n hn.1 hn.2 w (hR.table LG OB (by simp [Lib.pow10Tab]))).mono fun e w' ⟨he,k,os,hw⟩=>⟨_,he,by simp [VR],by subst hw;exact Grew.of_grow w k os⟩) h
theorem oR {w w':World} (h:RowKit.Below w.heap.size w w'):Grew w w':=⟨fun b hb=>h.block b hb,h.size,h.os,h.tape,h.output⟩
theorem Jg {w0:World} {S0:Nat→Prop} {E:Env} {L:List Blk} {w:World} (hR:Rel w0 S0 E L w) {g:Nat} {t:TypeId} (hp:dw g=some [.iface t .undef]):∃ x,w.cell? ⟨g,0,none⟩=some (.iface t x):=by
 have hm:=jq hp
 obtain ⟨v,h1,h2⟩:=(hR.glob.env hm).get (i:=0) (a:=.iface t .undef) rfl
 simp only [VR] at h2
 obtain ⟨x,rfl,_⟩:=h2
 exact ⟨x,by simpa using hR.mem _ _ _ h1⟩
theorem OD {l:List UInt8} {n:Int} (hl:(l.length:Int)≤1000000) (hp:Lib.parseIntB 64 l=.ok n) {L:List Blk} {K:AV→List Blk→Prop} (h:K (.tup [.int .i64 n,.nilif]) L):af Tryz.prog 96 [.str l,.int .i64 10,.int .i64 64] L K :=
 d9 Tryz.func96 rfl (by kernel_rfl) (fun w0 S0 E w vs hR hv=>by
   simp only [VRL,VR] at hv
   obtain ⟨_,_,rfl,rfl,_,_,rfl,rfl,_,_,rfl,rfl,rfl⟩:=hv
   refine (Tryz.strconv_ParseInt_10_at64_ok ⟨⟨l⟩⟩ (show l.length≤_ by omega) n hp w).mono fun e w' ⟨he,hw⟩=>⟨_,he,by simp [VR,VRL],?_⟩
   rcases hw with rfl|⟨t,rfl⟩
   · exact Grew.refl _
   · exact oR (Lib.bytesWorld_below _ _ _)) h
theorem OE {l:List UInt8} (hl:(l.length:Int)≤1000000) (hp:∀ n,Lib.parseIntB 64 l ≠ .ok n) {L:List Blk} {K:AV→List Blk→Prop} (h:K (.tup [.int .i64 (Gy l),.iface 204 .undef]) L):af Tryz.prog 96 [.str l,.int .i64 10,.int .i64 64] L K :=
 d9 Tryz.func96 rfl (by kernel_rfl) (fun w0 S0 E w vs hR hv=>by
   simp only [VRL,VR] at hv
   obtain ⟨_,_,rfl,rfl,_,_,rfl,rfl,_,_,rfl,rfl,rfl⟩:=hv
   match hq:Lib.parseIntB 64 l with
   | .ok n=>exact absurd hq (hp n)
   | .syntax =>
     obtain ⟨x,hx⟩:=Jg hR (g:=5) rfl
     refine (Tryz.strconv_ParseInt_10_at64_syntax ⟨⟨l⟩⟩ (show l.length≤_ by omega) hq _ w hx (.inr ⟨_,_,rfl⟩)).mono fun e w' ⟨N,he,_,_,hw⟩=>⟨_,he,?_,oR hw⟩
     have e0:Gy l=0:=by simp [Gy,hq]
     rw [e0]
     simp [VR,VRL]
     exact ⟨_,_,⟨rfl,rfl⟩,rfl,_,rfl,_,rfl⟩
   | .range =>
     obtain ⟨x,hx⟩:=Jg hR (g:=6) rfl
     refine (Tryz.strconv_ParseInt_10_at64_range ⟨⟨l⟩⟩ (show l.length≤_ by omega) hq _ w hx (.inr ⟨_,_,rfl⟩)).mono fun e w' ⟨N,he,_,_,hw⟩=>⟨_,he,?_,oR hw⟩
     have e0:Gy l=Lib.intSat 64 l:=by simp [Gy,hq]
     rw [e0]
     simp [VR,VRL]
     exact ⟨_,_,⟨rfl,rfl⟩,rfl,_,rfl,_,rfl⟩) h
theorem IG {l:List UInt8} (hl:(l.length:Int)≤1000000) {L:List Blk} {K:AV→List Blk→Prop} (h:K (.tup [.int .i64 (Gy l),.bool (oh l)]) L):af Tryz.prog 121 [.str l] L K:=by
 replace h:=hid h
 refine ai Ak (by simp [ir]) ?_
 simp only [ir,ar]
 by_cases hp:∃ n,Lib.parseIntB 64 l=.ok n
 · obtain ⟨n,hp⟩:=hp
   have hr:=hid (D2 hp)
   have e1:=hid (show Gy l=n by simp [Gy,hp])
   have e2:=hid (show oh l=decide (Lib.itoa n=l) by simp [oh,hp])
   replace hp:=hid hp
   have kk1:=@hid _ (fun L K=>OD hl hp.out (L:=L) (K:=K))
   have kk2:=@hid _ (fun L K=>Vs hr.out (L:=L) (K:=K))
   refine wk ?_
   refine aa ?_
   have h:=h.out
   rw [e1.out,e2.out] at h
   exact h
 · have hp':=hid (show ∀ n,Lib.parseIntB 64 l ≠ .ok n from fun n e=>hp ⟨n,e⟩)
   have e2:=hid (show oh l=false by
     unfold oh
     split
     · rename_i n hn;exact absurd ⟨n,hn⟩ hp
     · rfl)
   clear hp
   have kk1:=@hid _ (fun L K=>OE hl hp'.out (L:=L) (K:=K))
   refine wk ?_
   refine aa ?_
   have h:=h.out
   rw [e2.out] at h
   exact h
theorem Kn:dw 2=some ((List.range 256).map fun c=>AV.int .u8 (Lib.firstT c:Int)):=by kernel_rfl
theorem Jv:dw 3=some ((List.range 16).flatMap fun i=>[AV.int .u8 (Lib.accLo i:Int),AV.int .u8 (Lib.accHi i:Int)]):=by kernel_rfl
theorem C4 {w0:World} {S0:Nat→Prop} {E:Env} {L:List Blk} {w:World} (hR:Rel w0 S0 E L w) {g i:Nat} {l:List AV} {k:IntKind} {z:Int} (hp:dw g=some l) (hi:l[i]?=some (.int k z)):w.cell? ⟨g,i,none⟩=some (.int k z):=by
 have hm:=jq hp
 obtain ⟨v,h1,h2⟩:=(hR.glob.env hm).get (i:=i) (a:=.int k z) hi
 simp only [VR] at h2
 subst h2
 simpa using hR.mem _ _ _ h1
theorem Lo {w0:World} {S0:Nat→Prop} {E:Env} {L:List Blk} {w:World} (hR:Rel w0 S0 E L w):Lib.Utf8Tabs 2 3 w:=by
 refine ⟨fun c hc=>C4 hR Kn ?_,fun i hi=>⟨C4 hR Jv ?_,C4 hR Jv ?_⟩⟩
 · simp [hc]
 · have:∀ i:_root_.Fin 16,((List.range 16).flatMap fun i=>[AV.int .u8 (Lib.accLo i:Int),AV.int .u8 (Lib.accHi i:Int)])[2 * i.val]?=some (.int .u8 (Lib.accLo i.val:Int)):=fun i=>by
     match i with
     | ⟨0,_⟩|⟨1,_⟩|⟨2,_⟩|⟨3,_⟩|⟨4,_⟩|⟨5,_⟩|⟨6,_⟩|⟨7,_⟩|⟨8,_⟩|⟨9,_⟩|⟨10,_⟩|⟨11,_⟩|⟨12,_⟩|⟨13,_⟩|⟨14,_⟩|⟨15,_⟩=>rfl
     | ⟨n+16,h⟩=>omega
   exact this ⟨i,hi⟩
 · have:∀ i:_root_.Fin 16,((List.range 16).flatMap fun i=>[AV.int .u8 (Lib.accLo i:Int),AV.int .u8 (Lib.accHi i:Int)])[2 * i.val+1]?=some (.int .u8 (Lib.accHi i.val:Int)):=fun i=>by
     match i with
     | ⟨0,_⟩|⟨1,_⟩|⟨2,_⟩|⟨3,_⟩|⟨4,_⟩|⟨5,_⟩|⟨6,_⟩|⟨7,_⟩|⟨8,_⟩|⟨9,_⟩|⟨10,_⟩|⟨11,_⟩|⟨12,_⟩|⟨13,_⟩|⟨14,_⟩|⟨15,_⟩=>rfl
     | ⟨n+16,h⟩=>omega
   exact this ⟨i,hi⟩
theorem xo {l:List UInt8} (hl:l.length≤1000000) {L:List Blk} {K:AV→List Blk→Prop} (h:K (.bool (Lib.validD l)) L):af Tryz.prog 118 [.str l] L K :=
 d9 Tryz.func118 rfl (by kernel_rfl) (fun w0 S0 E w vs hR hv=>by
   simp only [VRL,VR] at hv
   obtain ⟨_,_,rfl,rfl,rfl⟩:=hv
   exact (Any.utf8_ValidString Tryz.lays196 ⟨⟨l⟩⟩ w (show l.length≤_ by omega) (Lo hR)).mono fun e w' ⟨he,hw⟩=>⟨_,he,by simp [VR],oR hw⟩) h
theorem oH {a b:List UInt8} {L:List Blk} {K:AV→List Blk→Prop} (h:K (.int .i64 (Lib.compareBytes a b)) L):af Tryz.prog 86 [.str a,.str b] L K :=
 d9 Tryz.func86 rfl (by kernel_rfl) (fun w0 S0 E w vs hR hv=>by
   simp only [VRL,VR] at hv
   obtain ⟨_,_,rfl,rfl,_,_,rfl,rfl,rfl⟩:=hv
   exact (Tryz.strings_Compare ⟨⟨a⟩⟩ ⟨⟨b⟩⟩ w).mono fun e w' ⟨he,hw⟩=>⟨_,he,by simp [VR],by subst hw;exact Grew.refl _⟩) h
set_option maxHeartbeats 8000000
set_option maxRecDepth 100000
abbrev Qm:List UInt8:=[84,82,85,69]
abbrev KI:List UInt8:=[70,65,76,83,69]
def OP (syn:Int) (v:List UInt8):Option (List UInt8) :=
 if syn=1 then (if v=[] then none else if Lib.validD v=true then some (dX v) else none)
 else if syn=2 then (if v=[] then none else if Lib.validD v=true then some v else none)
 else if syn=3 then (if Dz v=true then some (dX v) else none)
 else if syn=4 then (if oh v=true then some v else none)
 else if syn=5 then (if v=Qm∨v=KI then some v else none)
 else if syn=6 then (if (IV v).2=0 then some (IV v).1 else none)
 else if syn=7 then some v
 else if syn=8 then (if wU v=true then some v else none)
 else none
def eT (syn:Int) (v:List UInt8):Option (List UInt8):=if 4096<v.length then none else OP syn v
def sP:Option (List UInt8)→AV
 | some n=>.tup [.str n,.bool true]
 | none=>.tup [.str [],.bool false]
theorem Aa {syn:Int} {v:List UInt8} {L:List Blk} {K:AV→List Blk→Prop} (h:K (sP (eT syn v)) L):af Tryz.prog 87 [.int .i64 syn,.str v] L K:=by
 unfold eT at h
 refine ai Di (by simp [kF]) ?_
 simp only [kF,ar]
 by_cases hl:4096<v.length
 · have f1:(4096:Int)<(v.length:Int):=by omega
   rw [if_pos hl] at h
   replace h:=hid h
   clear hl
   refine wk ?_
   exact aa h.out
 have f1:¬ (4096:Int)<(v.length:Int):=by omega
 rw [if_neg hl] at h
 have vl1:v.length≤1000000:=by omega
 have vl2:(v.length:Int)≤100000:=by omega
 have vl3:(v.length:Int)≤1000000:=by omega
 unfold OP at h
 clear hl
 by_cases s1:syn=1
 · subst s1
   rw [if_pos rfl] at h
   by_cases hv:v=[]
   · rw [if_pos hv] at h
     replace h:=hid h
     subst hv
     have kk1:=@hid _ (fun L K=>oL vl2 (L:=L) (K:=K))
     have kk2:=@hid _ (fun L K=>xo vl1 (L:=L) (K:=K))
     refine wk ?_
     exact aa h.out
   · rw [if_neg hv] at h
     cases hd:Lib.validD v with
     | true =>
       rw [hd,if_pos rfl] at h
       replace h:=hid h
       have kk1:=@hid _ (fun L K=>oL vl2 (L:=L) (K:=K))
       have kk2:=@hid _ (fun L K=>xo vl1 (L:=L) (K:=K))
       refine wk ?_
       exact aa h.out
     | false =>
       rw [hd,if_neg (by simp)] at h
       replace h:=hid h
       have kk1:=@hid _ (fun L K=>oL vl2 (L:=L) (K:=K))
       have kk2:=@hid _ (fun L K=>xo vl1 (L:=L) (K:=K))
       refine wk ?_
       exact aa h.out
 rw [if_neg s1] at h
 by_cases s2:syn=2
 · subst s2
   rw [if_pos rfl] at h
   by_cases hv:v=[]
   · rw [if_pos hv] at h
     replace h:=hid h
     have kk1:=@hid _ (fun L K=>xo vl1 (L:=L) (K:=K))
     refine wk ?_
     exact aa h.out
   · rw [if_neg hv] at h
     cases hd:Lib.validD v with
     | true =>
       rw [hd,if_pos rfl] at h
       replace h:=hid h
       have kk1:=@hid _ (fun L K=>xo vl1 (L:=L) (K:=K))
       refine wk ?_
       exact aa h.out
     | false =>
       rw [hd,if_neg (by simp)] at h
       replace h:=hid h
       have kk1:=@hid _ (fun L K=>xo vl1 (L:=L) (K:=K))
       refine wk ?_
       exact aa h.out
 rw [if_neg s2] at h
 by_cases s3:syn=3
 · subst s3
   rw [if_pos rfl] at h
   replace h:=hid h
   have kk1:=@hid _ (fun L K=>oL vl2 (L:=L) (K:=K))
   refine wk ?_
   refine O8 vl1 (fun e=>?_) (fun k e=>?_)
   · have h':=h.out
     rw [if_pos e] at h'
     replace h':=hid h'
     refine sk ?_
     refine wk ?_
     exact aa h'.out
   · have h':=h.out
     rw [if_neg (by rw [e];simp)] at h'
     replace h':=hid h'
     have k0:¬ (k:Int)<0:=by omega
     refine sk ?_
     refine wk ?_
     exact aa h'.out
 rw [if_neg s3] at h
 by_cases s4:syn=4
 · subst s4
   rw [if_pos rfl] at h
   cases hd:oh v with
   | true =>
     rw [hd,if_pos rfl] at h
     replace h:=hid h
     have kk1:=@hid _ (fun L K=>IG vl3 (L:=L) (K:=K))
     refine wk ?_
     exact aa h.out
   | false =>
     rw [hd,if_neg (by simp)] at h
     replace h:=hid h
     have kk1:=@hid _ (fun L K=>IG vl3 (L:=L) (K:=K))
     refine wk ?_
     exact aa h.out
 rw [if_neg s4] at h
 by_cases s5:syn=5
 · subst s5
   rw [if_pos rfl] at h
   by_cases t1:v=Qm
   · rw [if_pos (.inl t1)] at h
     replace h:=hid h
     have c1:(decide (v=[84,82,85,69]):Bool)=true:=decide_eq_true t1
     subst t1
     refine wk ?_
     exact aa h.out
   · by_cases t2:v=KI
     · rw [if_pos (.inr t2)] at h
       replace h:=hid h
       subst t2
       have t3:¬ ([70,65,76,83,69]:List UInt8)=[84,82,85,69]:=by decide
       clear t1
       refine wk ?_
       exact aa h.out
     · rw [if_neg (fun e=>e.elim t1 t2)] at h
       replace h:=hid h
       refine wk ?_
       exact aa h.out
 rw [if_neg s5] at h
 by_cases s6:syn=6
 · subst s6
   rw [if_pos rfl] at h
   obtain ⟨⟨k,e⟩,hk⟩:∃ p,IV v=p:=⟨_,rfl⟩
   rw [hk] at h
   simp only at h
   by_cases he:e=0
   · subst he
     rw [if_pos rfl] at h
     replace h:=hid h
     refine wk ?_
     refine TT ?_
     rw [hk]
     simp only [oF]
     refine sk ?_
     refine wk ?_
     exact aa h.out
   · rw [if_neg he] at h
     replace h:=hid h
     refine wk ?_
     refine TT ?_
     rw [hk]
     simp only [oF]
     refine sk ?_
     refine wk ?_
     exact aa h.out
 rw [if_neg s6] at h
 by_cases s7:syn=7
 · subst s7
   rw [if_pos rfl] at h
   replace h:=hid h
   refine wk ?_
   exact aa h.out
 rw [if_neg s7] at h
 by_cases s8:syn=8
 · subst s8
   rw [if_pos rfl] at h
   cases hd:wU v with
   | true =>
     rw [hd,if_pos rfl] at h
     replace h:=hid h
     have kk1:=@hid _ (fun L K=>IL vl1 (L:=L) (K:=K))
     refine wk ?_
     exact aa h.out
   | false =>
     rw [hd,if_neg (by simp)] at h
     replace h:=hid h
     have kk1:=@hid _ (fun L K=>IL vl1 (L:=L) (K:=K))
     refine wk ?_
     exact aa h.out
 rw [if_neg s8] at h
 replace h:=hid h
 refine wk ?_
 exact aa h.out
theorem H6:∀ a b:List UInt8,Lib.compareBytes a b=if a<b then -1 else if b<a then 1 else 0
 | [],[]=>by simp [Lib.compareBytes]
 | [],b::bs=>by simp [Lib.compareBytes]
 | a::xs,[]=>by simp [Lib.compareBytes]
 | a::xs,b::bs=>by
   rw [Lib.compareBytes,H6 xs bs]
   simp only [List.cons_lt_cons_iff]
   by_cases h1:a<b
   · rw [if_pos h1,if_pos (.inl h1)]
   · rw [if_neg h1]
     by_cases h2:b<a
     · rw [if_pos h2,if_neg,if_pos (.inl h2)]
       rintro (e|⟨e,_⟩)
       · exact h1 e
       · subst e;exact h1 h2
     · rw [if_neg h2]
       have e:a=b:=by
         rcases Nat.lt_trichotomy a.toNat b.toNat with h|h|h
         · exact absurd h h1
         · exact UInt8.toNat_inj.1 h
         · exact absurd h h2
       subst e
       simp
end Go.Proofs.YtohflefnbajajaaGreatDoor.Av
