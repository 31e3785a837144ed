/- Joined texts of the walk, made small by a program. -/
import Derived.Test.YtohflefnbajajaaGreatDoorVP4
import Derived.Test.YtohflefnbajajaaGreatDoorRows
import Derived.KernelRfl
import Derived.Test.YtohflefnbajajaaGreatDoorVP5
set_option linter.unusedSimpArgs false
set_option linter.unusedVariables false
set_option maxRecDepth 100000
namespace Go.Proofs.YtohflefnbajajaaGreatDoor.Av
open Go
def wq:List SOp :=
 [o1 2 (.mv (.av (.str [])))]
def wo:List SOp :=
 [o1 6 (.mv (tm 0)),
 o1 7 (.s2bO (tm 6)),
 o1 3 (.mv (tm 7))]
def wn:List SOp :=
 [o1 8 (.mv (tm 3)),
 o1 9 (.len false (tm 8)),
 o1 10 (.mv (iv 0))]
def wm:List SOp :=
 [o1 11 (.bin .lss (tm 10) (tm 9))]
def wl:List SOp :=
 [o1 12 (.mv (tm 10)),
 o1 13 (.iaddr 1 (tm 8) (tm 10)),
 o1 14 (.load false 1 (tm 13)),
 o1 4 (.mv (tm 12)),
 o1 5 (.mv (tm 14))]
def wj:List SOp :=
 [o1 15 (.mv (tm 5)),
 o1 16 (.bin .geq (tm 15) (.av (.int .u8 65))),
 o1 17 (.mv (tm 16)),
 .grp none 17 true
 [og 18 17 true (.mv (tm 5)),
 og 19 17 true (.bin .leq (tm 18) (.av (.int .u8 90)))]
 20 (tm 19)]
def wi:List SOp :=
 [o1 21 (.mv (tm 3)),
 o1 22 (.mv (tm 4)),
 o1 23 (.mv (tm 5)),
 o1 24 (.bin .add (tm 23) (.av (.int .u8 32))),
 o1 25 (.iaddr 1 (tm 21) (tm 22)),
 o0 (.store 1 (tm 25) (tm 24))]
def wh:List SOp :=
 [o1 26 (.bin .add (tm 10) (iv 1)),
 o1 10 (.mv (tm 26))]
def wg:List SOp :=
 [o1 27 (.mv (tm 3)),
 o1 28 (.b2s (tm 27)),
 o1 2 (.mv (tm 28))]
def pk:aU:=⟨29,(.seq (.sreg wq [])
 (.seq (.sreg wo [true,false,false])
 (.seq (.seq (.sreg wn [])
 (.block 0 (.loop (.seq (.sreg wm [])
 (.seq (.cond (tm 11) .skip
 (.exit 0))
 (.seq (.block 1 (.seq (.sreg wl [true,true,false,false,false])
 (.seq (.sreg wj [true,false,false,false])
 (.cond (tm 20) (.sreg wi [false,false,false,false,false])
 .skip))))
 (.sreg wh [true,false])))))))
 (.seq (.sreg wg [true,false,false])
 .ret)))),[(.tmp 2)]⟩
attribute [push_cast] wq wo wn wm wl wj wi wh wg
theorem EE:aW Tryz.prog (fun r i=>if r=1∧i=1 then 2 else 1) 84=some pk.raw:=by kernel_rfl
def wc:List SOp :=
 [o1 2 (.mv (.av (.str [])))]
def wb:List SOp :=
 [o1 3 (.mv (.av (.sl [] 0 (some 0))))]
def wa:List SOp :=
 [o1 6 (.mv (tm 0)),
 o1 7 (.call 84 [(tm 6)]),
 o1 8 (.s2b (tm 7)),
 o1 9 (.len false (tm 8)),
 o1 10 (.mv (iv 0))]
def v8:List SOp :=
 [o1 11 (.bin .lss (tm 10) (tm 9))]
def v7:List SOp :=
 [o1 12 (.iaddr 1 (tm 8) (tm 10)),
 o1 13 (.load false 1 (tm 12)),
 o1 5 (.mv (tm 13))]
def v6:List SOp :=
 [o1 14 (.mv (tm 5)),
 o1 15 (.bin .eql (tm 14) (.av (.int .u8 32))),
 o1 16 (.mv (tm 15)),
 .grp none 16 true
 [og 17 16 true (.mv (tm 3)),
 og 18 16 true (.len false (tm 17)),
 og 19 16 true (.bin .eql (tm 18) (iv 0)),
 og 20 16 true (.mv (tm 19)),
 .grp (some (16,true)) 20 false
 [og 21 20 false (.mv (tm 3)),
 og 22 20 false (.mv (tm 3)),
 og 23 20 false (.len false (tm 22)),
 og 24 20 false (.bin .sub (tm 23) (iv 1)),
 og 25 20 false (.iaddr 1 (tm 21) (tm 24)),
 og 26 20 false (.load false 1 (tm 25)),
 og 27 20 false (.bin .eql (tm 26) (.av (.int .u8 32)))]
 28 (tm 27)]
 29 (tm 28)]
def vZ:List SOp :=
 [o1 30 (.mv (tm 3)),
 o1 31 (.mv (tm 5)),
 o1 32 (.bslice false 1 1 [(.int .u8 0)] [(0,(1,(tm 31)))]),
 o1 33 (.app 1 1 1 [(.int .u8 0)] (tm 30) (tm 32)),
 o1 3 (.mv (tm 33))]
def vY:List SOp :=
 [o1 34 (.bin .add (tm 10) (iv 1)),
 o1 10 (.mv (tm 34))]
def vX:List SOp :=
 [o1 35 (.mv (tm 3)),
 o1 36 (.len false (tm 35)),
 o1 37 (.bin .gtr (tm 36) (iv 0)),
 o1 38 (.mv (tm 37)),
 .grp none 38 true
 [og 39 38 true (.mv (tm 3)),
 og 40 38 true (.mv (tm 3)),
 og 41 38 true (.len false (tm 40)),
 og 42 38 true (.bin .sub (tm 41) (iv 1)),
 og 43 38 true (.iaddr 1 (tm 39) (tm 42)),
 og 44 38 true (.load false 1 (tm 43)),
 og 45 38 true (.bin .eql (tm 44) (.av (.int .u8 32)))]
 46 (tm 45)]
def vW:List SOp :=
 [o1 47 (.mv (tm 3)),
 o1 48 (.mv (tm 3)),
 o1 49 (.len false (tm 48)),
 o1 50 (.bin .sub (tm 49) (iv 1)),
 o1 51 (.slV 1 (tm 47) none (some (tm 50)) none),
 o1 3 (.mv (tm 51))]
def se:List SOp :=
 [o1 52 (.mv (tm 3)),
 o1 53 (.b2s (tm 52)),
 o1 2 (.mv (tm 53))]
def pj:aU:=⟨54,(.seq (.sreg wc [])
 (.seq (.sreg wb [])
 (.seq (.seq (.sreg wa [true,true,true,false,false])
 (.block 0 (.loop (.seq (.sreg v8 [])
 (.seq (.cond (tm 11) .skip
 (.exit 0))
 (.seq (.block 1 (.seq (.sreg v7 [true,false,false])
 (.seq (.seq (.sreg v6 [true,false,false,false])
 (.cond (tm 29) (.exit 1)
 .skip))
 (.sreg vZ [true,false,false,false,false]))))
 (.sreg vY [true,false])))))))
 (.seq (.seq (.sreg vX [true,false,false,false,false])
 (.cond (tm 46) (.sreg vW [true,false,false,false,false,false])
 .skip))
 (.seq (.sreg se [true,false,false])
 .ret))))),[(.tmp 2)]⟩
attribute [push_cast] wc wb wa v8 v7 v6 vZ vY vX vW se
theorem ED:aW Tryz.prog (fun _ _=>1) 117=some pj.raw:=by kernel_rfl
def vN:List SOp :=
 [o1 2 (.mv (.av (.str [])))]
def vM:List SOp :=
 [o1 3 (.mv (.av (.sl [] 0 (some 0))))]
def vL:List SOp :=
 [o1 4 (.mv (iv 0))]
def vK:List SOp :=
 [o1 6 (.mv (tm 4)),
 o1 7 (.mv (tm 0)),
 o1 8 (.len true (tm 7)),
 o1 9 (.bin .lss (tm 6) (tm 8))]
def vJ:List SOp :=
 [o1 12 (.mv (tm 0)),
 o1 13 (.mv (tm 4)),
 o1 14 (.idxS (tm 12) (tm 13)),
 o1 5 (.mv (tm 14))]
def vI:List SOp :=
 [o1 15 (.mv (tm 5)),
 o1 16 (.bin .geq (tm 15) (.av (.int .u8 65))),
 o1 17 (.mv (tm 16)),
 .grp none 17 true
 [og 18 17 true (.mv (tm 5)),
 og 19 17 true (.bin .leq (tm 18) (.av (.int .u8 90)))]
 20 (tm 19)]
def vH:List SOp :=
 [o1 21 (.mv (tm 5)),
 o1 22 (.bin .sub (tm 21) (.av (.int .u8 65))),
 o1 23 (.bin .add (tm 22) (.av (.int .u8 97))),
 o1 5 (.mv (tm 23))]
def vG:List SOp :=
 [o1 24 (.mv (tm 3)),
 o1 25 (.mv (tm 5)),
 o1 26 (.bslice false 1 1 [(.int .u8 0)] [(0,(1,(tm 25)))]),
 o1 27 (.app 1 1 1 [(.int .u8 0)] (tm 24) (tm 26)),
 o1 3 (.mv (tm 27))]
def vF:List SOp :=
 [o1 10 (.mv (tm 4)),
 o1 11 (.bin .add (tm 10) (iv 1)),
 o1 4 (.mv (tm 11))]
def vE:List SOp :=
 [o1 28 (.mv (tm 3)),
 o1 29 (.b2s (tm 28)),
 o1 2 (.mv (tm 29))]
def ph:aU:=⟨30,(.seq (.sreg vN [])
 (.seq (.sreg vM [])
 (.seq (.seq (.sreg vL [])
 (.block 0 (.loop (.seq (.seq (.sreg vK [true,false,false,false])
 (.cond (tm 9) .skip
 (.exit 0)))
 (.seq (.block 1 (.seq (.sreg vJ [true,false,false,false])
 (.seq (.seq (.sreg vI [true,false,false,false])
 (.cond (tm 20) (.sreg vH [true,false,false,false])
 .skip))
 (.sreg vG [true,false,false,false,false]))))
 (.sreg vF [true,false,false]))))))
 (.seq (.sreg vE [true,false,false])
 .ret)))),[(.tmp 2)]⟩
attribute [push_cast] vN vM vL vK vJ vI vH vG vF vE
theorem EB:aW Tryz.prog (fun _ _=>1) 51=some ph.raw:=by kernel_rfl
def vD:List SOp :=
 [o1 2 (.mv (.av (.str [])))]
def vC:List SOp :=
 [o1 8 (.mv (tm 0)),
 o1 9 (.call 51 [(tm 8)]),
 o1 3 (.mv (tm 9))]
def vB:List SOp :=
 [o1 4 (.mv (.av (.sl [] 0 (some 0))))]
def vA:List SOp :=
 [o1 5 (.mv (iv 0))]
def vz:List SOp :=
 [o1 10 (.mv (tm 5)),
 o1 11 (.mv (tm 3)),
 o1 12 (.len true (tm 11)),
 o1 13 (.bin .lss (tm 10) (tm 12))]
def vy:List SOp :=
 [o1 6 (.mv (.av (.bool false)))]
def vx:List SOp :=
 [o1 16 (.mv (tm 5)),
 o1 7 (.mv (tm 16))]
def vw:List SOp :=
 [o1 17 (.mv (tm 7)),
 o1 18 (.mv (tm 3)),
 o1 19 (.len true (tm 18)),
 o1 20 (.bin .lss (tm 17) (tm 19)),
 o1 21 (.mv (tm 20)),
 .grp none 21 true
 [og 22 21 true (.mv (tm 6)),
 og 23 21 true (.un .not (tm 22))]
 24 (tm 23)]
def vv:List SOp :=
 [o1 27 (.mv (tm 3)),
 o1 28 (.mv (tm 7)),
 o1 29 (.idxS (tm 27) (tm 28)),
 o1 30 (.bin .neq (tm 29) (.av (.int .u8 32))),
 o1 6 (.mv (tm 30))]
def vu:List SOp :=
 [o1 25 (.mv (tm 7)),
 o1 26 (.bin .add (tm 25) (iv 1)),
 o1 7 (.mv (tm 26))]
def rT:List SOp :=
 [o1 31 (.mv (tm 6)),
 o1 32 (.un .not (tm 31)),
 o1 33 (.mv (tm 32)),
 .grp none 33 false
 [og 34 33 false (.mv (tm 3)),
 og 35 33 false (.mv (tm 5)),
 og 36 33 false (.idxS (tm 34) (tm 35)),
 og 37 33 false (.bin .eql (tm 36) (.av (.int .u8 32))),
 og 38 33 false (.mv (tm 37)),
 .grp (some (33,false)) 38 true
 [og 39 38 true (.mv (tm 4)),
 og 40 38 true (.len false (tm 39)),
 og 41 38 true (.bin .eql (tm 40) (iv 0)),
 og 42 38 true (.mv (tm 41)),
 .grp (some (38,true)) 42 false
 [og 43 42 false (.mv (tm 3)),
 og 44 42 false (.mv (tm 5)),
 og 45 42 false (.bin .sub (tm 44) (iv 1)),
 og 46 42 false (.idxS (tm 43) (tm 45)),
 og 47 42 false (.bin .eql (tm 46) (.av (.int .u8 32)))]
 48 (tm 47)]
 49 (tm 48)]
 50 (tm 49)]
def rS:List SOp :=
 [o1 51 (.mv (tm 4)),
 o1 52 (.mv (tm 3)),
 o1 53 (.mv (tm 5)),
 o1 54 (.idxS (tm 52) (tm 53)),
 o1 55 (.bslice false 1 1 [(.int .u8 0)] [(0,(1,(tm 54)))]),
 o1 56 (.app 1 1 1 [(.int .u8 0)] (tm 51) (tm 55)),
 o1 4 (.mv (tm 56))]
def rR:List SOp :=
 [o1 14 (.mv (tm 5)),
 o1 15 (.bin .add (tm 14) (iv 1)),
 o1 5 (.mv (tm 15))]
def rQ:List SOp :=
 [o1 57 (.mv (tm 4)),
 o1 58 (.b2s (tm 57)),
 o1 2 (.mv (tm 58))]
def pg:aU:=⟨59,(.seq (.sreg vD [])
 (.seq (.sreg vC [true,false,false])
 (.seq (.sreg vB [])
 (.seq (.seq (.sreg vA [])
 (.block 0 (.loop (.seq (.seq (.sreg vz [true,false,false,false])
 (.cond (tm 13) .skip
 (.exit 0)))
 (.seq (.block 1 (.seq (.sreg vy [])
 (.seq (.seq (.sreg vx [true,false])
 (.block 2 (.loop (.seq (.seq (.sreg vw [true,false,false,false,false,false])
 (.cond (tm 24) .skip
 (.exit 2)))
 (.seq (.block 3 (.sreg vv [true,false,false,false,false]))
 (.sreg vu [true,false,false]))))))
 (.seq (.seq (.sreg rT [true,false,false,false])
 (.cond (tm 50) (.exit 1)
 .skip))
 (.sreg rS [true,false,false,false,false,false,false])))))
 (.sreg rR [true,false,false]))))))
 (.seq (.sreg rQ [true,false,false])
 .ret))))),[(.tmp 2)]⟩
attribute [push_cast] vD vC vB vA vz vy vx vw vv vu rT rS rR rQ
theorem EA:aW Tryz.prog (fun _ _=>1) 79=some pg.raw:=by kernel_rfl
def vV:List SOp :=
 [o1 2 (.mv (.av (.int .u8 0))),
 o1 3 (.mv (.av (.bool false)))]
def vU:List SOp :=
 [o1 5 (.mv (tm 0)),
 o1 6 (.bin .geq (tm 5) (.av (.int .u8 48))),
 o1 7 (.mv (tm 6)),
 .grp none 7 true
 [og 8 7 true (.mv (tm 0)),
 og 9 7 true (.bin .leq (tm 8) (.av (.int .u8 57)))]
 10 (tm 9),
 o1 4 (.mv (tm 10))]
def vT:List SOp :=
 [o1 11 (.mv (tm 0)),
 o1 12 (.bin .sub (tm 11) (.av (.int .u8 48))),
 o1 2 (.mv (tm 12)),
 o1 3 (.mv (.av (.bool true)))]
def vS:List SOp :=
 [o1 14 (.mv (tm 0)),
 o1 15 (.bin .geq (tm 14) (.av (.int .u8 97))),
 o1 16 (.mv (tm 15)),
 .grp none 16 true
 [og 17 16 true (.mv (tm 0)),
 og 18 16 true (.bin .leq (tm 17) (.av (.int .u8 102)))]
 19 (tm 18),
 o1 13 (.mv (tm 19))]
def vR:List SOp :=
 [o1 20 (.mv (tm 0)),
 o1 21 (.bin .sub (tm 20) (.av (.int .u8 97))),
 o1 22 (.bin .add (tm 21) (.av (.int .u8 10))),
 o1 2 (.mv (tm 22)),
 o1 3 (.mv (.av (.bool true)))]
def vQ:List SOp :=
 [o1 24 (.mv (tm 0)),
 o1 25 (.bin .geq (tm 24) (.av (.int .u8 65))),
 o1 26 (.mv (tm 25)),
 .grp none 26 true
 [og 27 26 true (.mv (tm 0)),
 og 28 26 true (.bin .leq (tm 27) (.av (.int .u8 70)))]
 29 (tm 28),
 o1 23 (.mv (tm 29))]
def vP:List SOp :=
 [o1 30 (.mv (tm 0)),
 o1 31 (.bin .sub (tm 30) (.av (.int .u8 65))),
 o1 32 (.bin .add (tm 31) (.av (.int .u8 10))),
 o1 2 (.mv (tm 32)),
 o1 3 (.mv (.av (.bool true)))]
def vO:List SOp :=
 [o1 2 (.mv (.av (.int .u8 0))),
 o1 3 (.mv (.av (.bool false)))]
def pi:aU:=⟨33,(.seq (.sreg vV [])
 (.seq (.block 0 (.seq (.sreg vU [true,false,false,false,false])
 (.cond (tm 4) (.seq (.sreg vT [true,true,false,false])
 .ret)
 (.seq (.sreg vS [true,false,false,false,false])
 (.cond (tm 13) (.seq (.sreg vR [true,true,false,false,false])
 .ret)
 (.seq (.sreg vQ [true,false,false,false,false])
 (.cond (tm 23) (.seq (.sreg vP [true,true,false,false,false])
 .ret)
 .skip)))))))
 (.seq (.sreg vO [])
 .ret))),[(.tmp 2),(.tmp 3)]⟩
attribute [push_cast] vV vU vT vS vR vQ vP vO
theorem EC:aW Tryz.prog (fun _ _=>1) 200=some pi.raw:=by kernel_rfl
def sd:List SOp :=
 [o1 2 (.mv (.av (.str []))),
 o1 3 (.mv (.av (.bool false)))]
def sc:List SOp :=
 [o1 10 (.mv (tm 0)),
 o1 11 (.len true (tm 10)),
 o1 12 (.bin .rem (tm 11) (iv 2)),
 o1 13 (.bin .eql (tm 12) (iv 1))]
def sb:List SOp :=
 [o1 2 (.mv (.av (.str []))),
 o1 3 (.mv (.av (.bool false)))]
def sa:List SOp :=
 [o1 14 (.mv (tm 0)),
 o1 15 (.len true (tm 14)),
 o1 16 (.bin .quo (tm 15) (iv 2)),
 o1 17 (.mkslice 1 1 [(.int .u8 0)] (iv 0) (tm 16)),
 o1 4 (.mv (tm 17))]
def rZ:List SOp :=
 [o1 5 (.mv (iv 0))]
def rY:List SOp :=
 [o1 18 (.mv (tm 5)),
 o1 19 (.mv (tm 0)),
 o1 20 (.len true (tm 19)),
 o1 21 (.bin .lss (tm 18) (tm 20))]
def rX:List SOp :=
 [o1 25 (.mv (tm 0)),
 o1 26 (.mv (tm 5)),
 o1 27 (.idxS (tm 25) (tm 26)),
 o1 28 (.call 200 [(tm 27)]),
 o1 24 (.mv (tm 28)),
 o1 29 (.extract (tm 24) 0),
 o1 30 (.extract (tm 24) 1),
 o1 6 (.mv (tm 29)),
 o1 7 (.mv (tm 30))]
def rW:List SOp :=
 [o1 32 (.mv (tm 0)),
 o1 33 (.mv (tm 5)),
 o1 34 (.bin .add (tm 33) (iv 1)),
 o1 35 (.idxS (tm 32) (tm 34)),
 o1 36 (.call 200 [(tm 35)]),
 o1 31 (.mv (tm 36)),
 o1 37 (.extract (tm 31) 0),
 o1 38 (.extract (tm 31) 1),
 o1 8 (.mv (tm 37)),
 o1 9 (.mv (tm 38))]
def rV:List SOp :=
 [o1 39 (.mv (tm 7)),
 o1 40 (.un .not (tm 39)),
 o1 41 (.mv (tm 40)),
 .grp none 41 false
 [og 42 41 false (.mv (tm 9)),
 og 43 41 false (.un .not (tm 42))]
 44 (tm 43)]
def rU:List SOp :=
 [o1 2 (.mv (.av (.str []))),
 o1 3 (.mv (.av (.bool false)))]
def n9:List SOp :=
 [o1 45 (.mv (tm 4)),
 o1 46 (.mv (tm 6)),
 o1 47 (.bin .shl (tm 46) (.av (.int .u64 4))),
 o1 48 (.mv (tm 8)),
 o1 49 (.bin .or (tm 47) (tm 48)),
 o1 50 (.bslice false 1 1 [(.int .u8 0)] [(0,(1,(tm 49)))]),
 o1 51 (.app 1 1 1 [(.int .u8 0)] (tm 45) (tm 50)),
 o1 4 (.mv (tm 51))]
def n8:List SOp :=
 [o1 22 (.mv (tm 5)),
 o1 23 (.bin .add (tm 22) (iv 2)),
 o1 5 (.mv (tm 23))]
def n7:List SOp :=
 [o1 52 (.mv (tm 4)),
 o1 53 (.b2s (tm 52)),
 o1 2 (.mv (tm 53)),
 o1 3 (.mv (.av (.bool true)))]
def kP:aU:=⟨54,(.seq (.sreg sd [])
 (.seq (.seq (.sreg sc [true,false,false,false])
 (.cond (tm 13) (.seq (.sreg sb [])
 .ret)
 .skip))
 (.seq (.sreg sa [true,false,false,false,false])
 (.seq (.seq (.sreg rZ [])
 (.block 0 (.loop (.seq (.seq (.sreg rY [true,false,false,false])
 (.cond (tm 21) .skip
 (.exit 0)))
 (.seq (.block 1 (.seq (.sreg rX [true,true,false,false,false,false,false,false,false])
 (.seq (.sreg rW [true,true,false,false,false,false,false,false,false,false])
 (.seq (.seq (.sreg rV [true,false,false,false])
 (.cond (tm 44) (.seq (.sreg rU [])
 .ret)
 .skip))
 (.sreg n9 [true,false,false,false,false,false,false,false])))))
 (.sreg n8 [true,false,false]))))))
 (.seq (.sreg n7 [true,true,false,false])
 .ret))))),[(.tmp 2),(.tmp 3)]⟩
attribute [push_cast] sd sc sb sa rZ rY rX rW rV rU n9 n8 n7
theorem Ds:aW Tryz.prog (fun _ _=>1) 194=some kP.raw:=by kernel_rfl
def rF:List SOp :=
 [o1 2 (.mv (.av (.int .u8 0)))]
def rE:List SOp :=
 [o1 3 (.mv (tm 0)),
 o1 4 (.bin .lss (tm 3) (.av (.int .u8 10)))]
def rD:List SOp :=
 [o1 5 (.mv (tm 0)),
 o1 6 (.bin .add (.av (.int .u8 48)) (tm 5)),
 o1 2 (.mv (tm 6))]
def rC:List SOp :=
 [o1 7 (.mv (tm 0)),
 o1 8 (.bin .add (.av (.int .u8 97)) (tm 7)),
 o1 9 (.bin .sub (tm 8) (.av (.int .u8 10))),
 o1 2 (.mv (tm 9))]
def kN:aU:=⟨10,(.seq (.sreg rF [])
 (.seq (.seq (.sreg rE [true,false])
 (.cond (tm 4) (.seq (.sreg rD [true,false,false])
 .ret)
 .skip))
 (.seq (.sreg rC [true,false,false,false])
 .ret))),[(.tmp 2)]⟩
attribute [push_cast] rF rE rD rC
theorem Dq:aW Tryz.prog (fun _ _=>1) 189=some kN.raw:=by kernel_rfl
def rP:List SOp :=
 [o1 2 (.mv (.av (.str []))),
 o1 3 (.mv (.av (.bool false)))]
def rO:List SOp :=
 [o1 4 (.mv (.av (.sl [] 0 (some 0))))]
def rN:List SOp :=
 [o1 9 (.mv (tm 0)),
 o1 10 (.call 51 [(tm 9)]),
 o1 5 (.mv (tm 10))]
def rM:List SOp :=
 [o1 6 (.mv (iv 0))]
def rL:List SOp :=
 [o1 11 (.mv (tm 6)),
 o1 12 (.bin .add (tm 11) (iv 1)),
 o1 13 (.mv (tm 5)),
 o1 14 (.len true (tm 13)),
 o1 15 (.bin .lss (tm 12) (tm 14))]
def rK:List SOp :=
 [o1 7 (.mv (.av (.bool false)))]
def rJ:List SOp :=
 [o1 8 (.mv (iv 0))]
def rI:List SOp :=
 [o1 18 (.mv (tm 8)),
 o1 19 (.bin .lss (tm 18) (iv 256)),
 o1 20 (.mv (tm 19)),
 .grp none 20 true
 [og 21 20 true (.mv (tm 7)),
 og 22 20 true (.un .not (tm 21))]
 23 (tm 22)]
def rH:List SOp :=
 [o1 26 (.mv (tm 8)),
 o1 27 (.bin .quo (tm 26) (iv 16)),
 o1 28 (.conv .u8 (tm 27)),
 o1 29 (.call 189 [(tm 28)]),
 o1 30 (.mv (tm 5)),
 o1 31 (.mv (tm 6)),
 o1 32 (.idxS (tm 30) (tm 31)),
 o1 33 (.bin .eql (tm 29) (tm 32)),
 o1 34 (.mv (tm 33)),
 .grp none 34 true
 [og 35 34 true (.mv (tm 8)),
 og 36 34 true (.bin .rem (tm 35) (iv 16)),
 og 37 34 true (.conv .u8 (tm 36)),
 og 38 34 true (.call 189 [(tm 37)]),
 og 39 34 true (.mv (tm 5)),
 og 40 34 true (.mv (tm 6)),
 og 41 34 true (.bin .add (tm 40) (iv 1)),
 og 42 34 true (.idxS (tm 39) (tm 41)),
 og 43 34 true (.bin .eql (tm 38) (tm 42))]
 44 (tm 43)]
def rG:List SOp :=
 [o1 45 (.mv (tm 4)),
 o1 46 (.mv (tm 8)),
 o1 47 (.conv .u8 (tm 46)),
 o1 48 (.bslice false 1 1 [(.int .u8 0)] [(0,(1,(tm 47)))]),
 o1 49 (.app 1 1 1 [(.int .u8 0)] (tm 45) (tm 48)),
 o1 4 (.mv (tm 49))]
def nZ:List SOp :=
 [o1 7 (.mv (.av (.bool true)))]
def nY:List SOp :=
 [o1 24 (.mv (tm 8)),
 o1 25 (.bin .add (tm 24) (iv 1)),
 o1 8 (.mv (tm 25))]
def nX:List SOp :=
 [o1 50 (.mv (tm 7)),
 o1 51 (.un .not (tm 50))]
def nW:List SOp :=
 [o1 2 (.mv (.av (.str []))),
 o1 3 (.mv (.av (.bool false)))]
def nV:List SOp :=
 [o1 16 (.mv (tm 6)),
 o1 17 (.bin .add (tm 16) (iv 2)),
 o1 6 (.mv (tm 17))]
def nU:List SOp :=
 [o1 52 (.mv (tm 0)),
 o1 53 (.len true (tm 52)),
 o1 54 (.bin .rem (tm 53) (iv 2)),
 o1 55 (.bin .eql (tm 54) (iv 1))]
def nT:List SOp :=
 [o1 2 (.mv (.av (.str []))),
 o1 3 (.mv (.av (.bool false)))]
def nS:List SOp :=
 [o1 56 (.mv (tm 4)),
 o1 57 (.b2s (tm 56)),
 o1 2 (.mv (tm 57)),
 o1 3 (.mv (.av (.bool true)))]
def kO:aU:=⟨58,(.seq (.sreg rP [])
 (.seq (.sreg rO [])
 (.seq (.sreg rN [true,false,false])
 (.seq (.seq (.sreg rM [])
 (.block 0 (.loop (.seq (.seq (.sreg rL [true,false,false,false,false])
 (.cond (tm 15) .skip
 (.exit 0)))
 (.seq (.block 1 (.seq (.sreg rK [])
 (.seq (.seq (.sreg rJ [])
 (.block 2 (.loop (.seq (.seq (.sreg rI [true,false,false,false])
 (.cond (tm 23) .skip
 (.exit 2)))
 (.seq (.block 3 (.seq (.sdreg rH [.pure,.pure,.pure,(.read 0 0),.pure,.pure,(.read 0 0),.pure,.pure,.pure,.pure,.pure,(.read 0 0),.pure,.pure,.pure,(.read 0 0)] [true,false,false,false,false,false,false,false,false,false])
 (.cond (tm 44) (.seq (.sreg rG [true,false,false,false,false,false])
 (.sreg nZ []))
 .skip)))
 (.sreg nY [true,false,false]))))))
 (.seq (.sreg nX [true,false])
 (.cond (tm 51) (.seq (.sreg nW [])
 .ret)
 .skip)))))
 (.sreg nV [true,false,false]))))))
 (.seq (.seq (.sreg nU [true,false,false,false])
 (.cond (tm 55) (.seq (.sreg nT [])
 .ret)
 .skip))
 (.seq (.sreg nS [true,true,false,false])
 .ret)))))),[(.tmp 2),(.tmp 3)]⟩
attribute [push_cast] rP rO rN rM rL rK rJ rI rH rG nZ nY nX nW nV nU nT nS
theorem Dr:aW Tryz.prog (fun _ _=>1) 175=some kO.raw:=by kernel_rfl
set_option maxHeartbeats 8000000
set_option maxRecDepth 100000
def ie (c:UInt8):UInt8:=if 65≤c.toNat∧c.toNat≤90 then c+32 else c
def ae (s:List UInt8):List UInt8:=s.map ie
theorem KY {c:UInt8} (h1:65≤c.toNat) (h2:c.toNat≤90):((ie c).toNat:Int)=(c.toNat:Int)+32:=by
 rw [ie,if_pos ⟨h1,h2⟩,UInt8.toNat_add]
 have:(32:UInt8).toNat=32:=rfl
 omega
theorem IQ {c:UInt8} (h:¬ (65≤c.toNat∧c.toNat≤90)):ie c=c:=by rw [ie,if_neg h]
theorem fE (l:List UInt8):(u8s l).all C3=true:=by
 simp only [u8s,List.all_map,List.all_eq_true]
 intro x _
 have:=x.toNat_lt
 simp [C3]
theorem fe (l:List UInt8):(u8s l).map AI=l:=by
 induction l with
 | nil=>rfl
 | cons x l ih =>
   simp only [u8s,List.map_cons,List.map_map] at ih ⊢
   rw [ih]
   simp [AI]
theorem EI (l:List UInt8) (c:UInt8):u8s (l++[c])=u8s l++[.int .u8 c.toNat]:=by simp [u8s]
theorem FW {s:List UInt8} {k:Nat} (h:k<s.length):ae (s.take (k+1))=ae (s.take k)++[ie (s.getD k 0)]:=by
 rw [List.take_succ_eq_append_getElem h,ae,List.map_append]
 simp [ae,h]
theorem aX {s:List UInt8} (hs:(s.length:Int)≤140737488351232) {L:List Blk} {K:AV→List Blk→Prop} (h:K (.str (ae s)) L):af Tryz.prog 51 [.str s] L K:=by
 replace h:=hid h
 refine ai EB (by simp [ph]) ?_
 simp only [ph,ar]
 refine wk ?_
 refine dr (l:=[]) (n:=0) 3 1 rfl (Nat.zero_mul 1).symm ?_
 refine am (fun n T' L'=>∃ (k:Nat) (v:List AV),n=s.length - k∧k≤s.length∧v=u8s (ae (s.take k))∧T'=[(4,.int .i64 (k:Int)),(3,.gsl v k L.length 1),(2,.str []),(0,.str s)]∧L'=L++[.spare k 1]) (CutS (b:=by simp)) ⟨0,[],rfl,Nat.zero_le _,rfl,rfl,rfl⟩ ?_
 rintro _ _ _ ⟨k,v,rfl,hk,rfl,rfl,rfl⟩
 by_cases hlt:k<s.length
 · have h1:(k:Int)<(s.length:Int):=by omega
   have h2:IntKind.i64.wrap ((k:Int)+1)=(k:Int)+1:=ab (by omega) (by omega)
   have hsucc:=hid (FW hlt)
   have e:s.getD k 0=s.getD k 0:=rfl
   obtain ⟨c,hc⟩:∃ c,s.getD k 0=c:=⟨_,rfl⟩
   rw [hc] at hsucc
   have hc255:=c.toNat_lt
   by_cases hu:65≤c.toNat∧c.toNat≤90
   · have u1:(65:Int)≤(c.toNat:Int):=by omega
     have u2:(c.toNat:Int)≤90:=by omega
     have u3:=hid (KY hu.1 hu.2)
     have u4:IntKind.u8.wrap ((c.toNat:Int) - 65)=(c.toNat:Int) - 65:=b7 (by omega) (by omega)
     have u5:IntKind.u8.wrap ((c.toNat:Int) - 65+97)=(c.toNat:Int) - 65+97:=b7 (by omega) (by omega)
     clear hu
     refine wk ?_
     refine aj _ _ _ (by omega) (CutS (b:=by simp)) ⟨k+1,_,rfl,hlt,?_,rfl,rfl⟩
     rw [hsucc.out,EI,u3.out]
     simp only [show (c.toNat:Int) - 65+97=c.toNat+32 by omega]
   · have u3:=hid (IQ hu)
     have u4:¬ ((65:Int)≤(c.toNat:Int)∧(c.toNat:Int)≤90):=by omega
     have u5:(decide ((65:Int)≤(c.toNat:Int)) && decide ((c.toNat:Int)≤90))=false:=by simp;omega
     clear hu
     repeat' first
       | refine a8 ?_
       | (first|refine aM (by kernel_rfl) ?_|refine aA (by kernel_rfl) ?_|refine aB ?_|refine bV ?_|refine bc (fun _=>?_)|refine au ?_|refine aT ?_)
         refine sm ?_
       | (first|refine aP (by kernel_rfl) ?_|refine aN ?_|refine aO ?_|refine ba (ax ?_))
         refine sl ?_
       | exact bd
       | first|apply be|apply aQ|apply bf|apply aR|apply bg|apply aS
       | refine aC ?_
       | first|refine aD rfl ?_|refine aE rfl ?_|refine ao rfl ?_ ?_|refine aH rfl (fun _=>?_) (fun _=>?_)|refine aG rfl (fun _=>?_) (fun _=>?_)
       | ((first|refine an (fun _=>?_) (fun _=>?_)|refine aw (fun _=>?_) (fun _=>?_))<;>try refine sm ?_)
       | refine And.intro trivial ?_
       | refine And.intro (by omega) ?_
       | refine aI rfl (fun _=>?_) (fun _=>?_)
       | refine And.intro ?_ ?_
     all_goals first
       | omega
       | (refine aj _ _ _ (by omega) (CutS (b := by simp)) ⟨k + 1, _, rfl, hlt, ?_, rfl, rfl⟩
          rw [hsucc.out,EI,u3.out])
 · have hke:k=s.length:=by omega
   subst hke
   have h1:¬ (s.length:Int)<(s.length:Int):=by omega
   have e1:=fE (ae s)
   have e2:=fe (ae s)
   have e3:s.take s.length=s:=List.take_length
   refine wk ?_
   exact ad rfl h.out
theorem oU {s:List UInt8} (hs:(s.length:Int)≤140737488351232) {L:List Blk} {K:AV→List Blk→Prop} (h:K (.str (ae s)) L):af Tryz.prog 84 [.str s] L K:=by
 replace h:=hid h
 refine ai EE (by simp [pk]) ?_
 simp only [pk,ar]
 refine wk ?_
 refine am (fun n T' L'=>∃ (k:Nat) (v:List AV),n=s.length - k∧k≤s.length∧v=u8s (ae (s.take k)++s.drop k)∧T'=[(10,.int .i64 (k:Int)),(9,.int .i64 s.length),(8,.lsl L.length 0 s.length none 1),(3,.lsl L.length 0 s.length none 1),(2,.str [])]∧L'=L++[.bytes v]) (CutS (b:=by simp)) ⟨0,_,rfl,Nat.zero_le _,rfl,rfl,rfl⟩ ?_
 rintro _ _ _ ⟨k,v,rfl,hk,hv,rfl,rfl⟩
 by_cases hlt:k<s.length
 · have h1:(k:Int)<(s.length:Int):=by omega
   have h2:IntKind.i64.wrap ((k:Int)+1)=(k:Int)+1:=ab (by omega) (by omega)
   obtain ⟨c,hc⟩:∃ c,s.getD k 0=c:=⟨_,rfl⟩
   have hd:s.drop k=c::s.drop (k+1):=by
     rw [List.drop_eq_getElem_cons hlt,← hc,List.getD_eq_getElem?_getD,List.getElem?_eq_getElem hlt];rfl
   have hlk:(ae (s.take k)).length=k:=by simp [ae];omega
   have hv1:v=u8s (ae (s.take k)) ++ .int .u8 c.toNat::u8s (s.drop (k+1)):=by rw [hv,hd];simp [u8s]
   have hl2:(u8s (ae (s.take k))).length=k:=by simp [u8s,hlk]
   have hvl:v.length=s.length:=by rw [hv];simp [u8s,ae];omega
   have hvk:k<v.length:=by omega
   have hvg:v.getD k .undef=.int .u8 c.toNat:=by rw [hv1];simp [List.getD_eq_getElem?_getD,List.getElem?_append_right,hl2]
   have hsucc:=FW hlt
   rw [hc] at hsucc
   have hnew:u8s (ae (s.take (k+1))++s.drop (k+1))=u8s (ae (s.take k)) ++ .int .u8 (ie c).toNat::u8s (s.drop (k+1)):=by rw [hsucc];simp [u8s]
   have hspl:∀ x,v.take k++x::v.drop (k+1)=u8s (ae (s.take k))++x::u8s (s.drop (k+1)):=fun x=>by
     rw [hv1,List.take_left' hl2,List.drop_append,hl2,List.drop_eq_nil_of_le (by omega),show k+1 - k=1 by omega];rfl
   clear hv hd hlk hsucc
   replace hv1:=hid hv1
   replace hnew:=hid hnew
   replace hspl:=hid hspl
   have hc255:=c.toNat_lt
   by_cases hu:65≤c.toNat∧c.toNat≤90
   · have u1:(65:Int)≤(c.toNat:Int):=by omega
     have u2:(c.toNat:Int)≤90:=by omega
     have u3:=hid (KY hu.1 hu.2)
     have u4:IntKind.u8.wrap ((c.toNat:Int)+32)=(c.toNat:Int)+32:=b7 (by omega) (by omega)
     clear hu
     refine wk ?_
     refine aj _ _ _ (by omega) (CutS (b:=by simp)) ⟨k+1,_,rfl,hlt,?_,rfl,rfl⟩
     rw [hnew.out,u3.out]
     exact hspl.out _
   · have u3:=hid (IQ hu)
     have u5:(decide ((65:Int)≤(c.toNat:Int)) && decide ((c.toNat:Int)≤90))=false:=by simp;omega
     clear hu
     repeat' first
       | refine a8 ?_
       | (first|refine aM (by kernel_rfl) ?_|refine aA (by kernel_rfl) ?_|refine aB ?_|refine bV ?_|refine bc (fun _=>?_)|refine au ?_|refine aT ?_)
         refine sm ?_
       | (first|refine aP (by kernel_rfl) ?_|refine aN ?_|refine aO ?_|refine ba (ax ?_))
         refine sl ?_
       | exact bd
       | first|apply be|apply aQ|apply bf|apply aR|apply bg|apply aS
       | refine aC ?_
       | first|refine aD rfl ?_|refine aE rfl ?_|refine ao rfl ?_ ?_|refine aH rfl (fun _=>?_) (fun _=>?_)|refine aG rfl (fun _=>?_) (fun _=>?_)
       | ((first|refine an (fun _=>?_) (fun _=>?_)|refine aw (fun _=>?_) (fun _=>?_))<;>try refine sm ?_)
       | refine And.intro trivial ?_
       | refine And.intro (by omega) ?_
       | refine aI rfl (fun _=>?_) (fun _=>?_)
       | refine And.intro ?_ ?_
     all_goals first
       | omega
       | (refine aj _ _ _ (by omega) (CutS (b := by simp)) ⟨k + 1, _, rfl, hlt, ?_, rfl, rfl⟩
          rw [hnew.out,u3.out]
          exact hv1.out)
 · have hke:k=s.length:=by omega
   subst hke
   have h1:¬ (s.length:Int)<(s.length:Int):=by omega
   have hv1:v=u8s (ae s):=by rw [hv];simp
   clear hv
   subst hv1
   have e1:=fE (ae s)
   have e2:=fe (ae s)
   have e4:(u8s (ae s)).length=s.length:=by simp [u8s,ae]
   have e5:(u8s (ae s)).take s.length=u8s (ae s):=by rw [← e4];exact List.take_length
   refine wk ?_
   exact ad rfl h.out
theorem fG {s:List UInt8} (hs:(s.length:Int)≤100000) {L:List Blk} {K:AV→List Blk→Prop} (h:K (.str (ae s)) L):af Tryz.prog 51 [.str s] L K:=aX (by omega) h
theorem w7 {s:List UInt8} (hs:(s.length:Int)≤100000) {L:List Blk} {K:AV→List Blk→Prop} (h:K (.str (ae s)) L):af Tryz.prog 84 [.str s] L K:=oU (by omega) h
set_option maxHeartbeats 8000000
set_option maxRecDepth 100000
def fN (c:UInt8):Option Nat:=if 48≤c.toNat∧c.toNat≤57 then some (c.toNat - 48) else if 97≤c.toNat∧c.toNat≤102 then some (c.toNat - 87) else if 65≤c.toNat∧c.toNat≤70 then some (c.toNat - 55) else none
theorem xA {c:UInt8} {x:Nat} (h:fN c=some x):x<16:=by
 unfold fN at h
 split at h
 · cases h;omega
 · split at h
   · cases h;omega
   · split at h
     · cases h;omega
     · cases h
theorem J7 {c:UInt8} {L:List Blk} {K:AV→List Blk→Prop} (h:K (.tup [.int .u8 ((fN c).getD 0:Nat),.bool (fN c).isSome]) L):af Tryz.prog 200 [.int .u8 c.toNat] L K:=by
 have hc:=c.toNat_lt
 obtain ⟨n,hn⟩:∃ n,c.toNat=n:=⟨_,rfl⟩
 unfold fN at h
 rw [hn] at h hc ⊢
 clear hn
 refine ai EC (by simp [pi]) ?_
 simp only [pi,ar]
 by_cases h1:48≤n∧n≤57
 · rw [if_pos h1] at h
   replace h:=hid h
   obtain ⟨a1,a2⟩:=h1
   have b1:(48:Int)≤(n:Int):=by omega
   have b2:(n:Int)≤57:=by omega
   have b3:IntKind.u8.wrap ((n:Int) - 48)=(n:Int) - 48:=b7 (by omega) (by omega)
   clear a1 a2
   refine wk ?_
   refine aa ?_
   have:=h.out
   simpa [show ((n - 48:Nat):Int)=(n:Int) - 48 by omega] using this
 · rw [if_neg h1] at h
   have c1:(decide ((48:Int)≤(n:Int)) && decide ((n:Int)≤57))=false:=by simp;omega
   by_cases h2:97≤n∧n≤102
   · rw [if_pos h2] at h
     replace h:=hid h
     obtain ⟨a1,a2⟩:=h2
     have b1:(97:Int)≤(n:Int):=by omega
     have b2:(n:Int)≤102:=by omega
     have b4:IntKind.u8.wrap ((n:Int) - 97)=(n:Int) - 97:=b7 (by omega) (by omega)
     have b5:IntKind.u8.wrap ((n:Int) - 97+10)=(n:Int) - 97+10:=b7 (by omega) (by omega)
     clear a1 a2 h1
     refine wk ?_
     refine aa ?_
     have:=h.out
     simpa [show ((n - 87:Nat):Int)=(n:Int) - 97+10 by omega] using this
   · rw [if_neg h2] at h
     have c2:(decide ((97:Int)≤(n:Int)) && decide ((n:Int)≤102))=false:=by simp;omega
     by_cases h3:65≤n∧n≤70
     · rw [if_pos h3] at h
       replace h:=hid h
       obtain ⟨a1,a2⟩:=h3
       have b1:(65:Int)≤(n:Int):=by omega
       have b2:(n:Int)≤70:=by omega
       have b4:IntKind.u8.wrap ((n:Int) - 65)=(n:Int) - 65:=b7 (by omega) (by omega)
       have b5:IntKind.u8.wrap ((n:Int) - 65+10)=(n:Int) - 65+10:=b7 (by omega) (by omega)
       clear a1 a2 h1 h2
       refine wk ?_
       refine aa ?_
       have:=h.out
       simpa [show ((n - 55:Nat):Int)=(n:Int) - 65+10 by omega] using this
     · rw [if_neg h3] at h
       have c3:(decide ((65:Int)≤(n:Int)) && decide ((n:Int)≤70))=false:=by simp;omega
       replace h:=hid h
       clear h1 h2 h3
       repeat' first
         | refine a8 ?_
         | (first|refine aM (by kernel_rfl) ?_|refine aA (by kernel_rfl) ?_|refine aB ?_|refine bV ?_|refine bc (fun _=>?_)|refine au ?_|refine aT ?_)
           refine sm ?_
         | (first|refine aP (by kernel_rfl) ?_|refine aN ?_|refine aO ?_|refine ba (ax ?_))
           refine sl ?_
         | exact bd
         | first|apply be|apply aQ|apply bf|apply aR|apply bg|apply aS
         | refine aC ?_
         | first|refine aD rfl ?_|refine aE rfl ?_|refine ao rfl ?_ ?_|refine aH rfl (fun _=>?_) (fun _=>?_)|refine aG rfl (fun _=>?_) (fun _=>?_)
         | ((first|refine an (fun _=>?_) (fun _=>?_)|refine aw (fun _=>?_) (fun _=>?_))<;>try refine sm ?_)
         | refine And.intro trivial ?_
         | refine And.intro (by omega) ?_
         | refine aI rfl (fun _=>?_) (fun _=>?_)
         | refine And.intro ?_ ?_
       all_goals first
         | omega
         | (refine aa ?_;simpa using h.out)
def Ct (a b:UInt8):Option UInt8:=match fN a,fN b with
 | some x,some y=>some (UInt8.ofNat (16 * x+y))
 | _,_=>none
def Ag (a b:UInt8):AV:=match Ct a b with
 | some c=>.tup [.str [c],.bool true]
 | none=>.tup [.str [],.bool false]
theorem Ua:∀ x y:_root_.Fin 16,IntKind.u8.wrap (((BitVec.ofInt IntKind.u8.bits (IntKind.u8.wrap ((x.val:Int) * 2 ^ min 4 IntKind.u8.bits)) ||| BitVec.ofInt IntKind.u8.bits (y.val:Int)).toNat:Nat):Int)=16 * (x.val:Int)+(y.val:Int):=by decide +kernel
theorem MT {a b:UInt8} {L:List Blk} {K:AV→List Blk→Prop} (h:K (Ag a b) L):af Tryz.prog 194 [.str [a,b]] L K:=by
 have hl:[a,b].length=2:=rfl
 have ha:[a,b].getD 0 0=a:=rfl
 have hb:[a,b].getD 1 0=b:=rfl
 have d1:IntKind.i64.wrap (Int.tdiv 2 2)=1:=by decide
 have d2:Int.tmod 2 2=0:=by decide
 have d3:ce [AV.int IntKind.u8 0] 1=[AV.int IntKind.u8 0]:=rfl
 have d4:IntKind.i64.wrap 1=1:=by decide
 have d5:IntKind.i64.wrap 2=2:=by decide
 replace h:=hid h
 refine ai Ds (by simp [kP]) ?_
 simp only [kP,ar]
 refine wk ?_
 refine am (fun n T' L'=>(n=1∧T'=[(5,.int .i64 0),(4,.lsl L.length 0 0 (some 1) 1),(0,.str [a,b])]∧L'=L++[.cells [.int .u8 0]])∨(n=0∧∃ x y:Nat,Hid (fN a=some x)∧Hid (fN b=some y)∧T'=[(5,.int .i64 2),(4,.lsl (L.length+1) 0 1 none 1),(0,.str [a,b])]∧L'=L++[.dead,.cells [.int .u8 ((16 * x+y:Nat):Int)]])) (n0:=1) (T0:=[(5,.int .i64 0),(4,.lsl L.length 0 0 (some 1) 1),(0,.str [a,b])]) (L0:=L++[.cells [.int .u8 0]]) (CutS (b:=by simp)) (.inl ⟨rfl,rfl,rfl⟩) ?_
 rintro _ _ _ (⟨rfl,rfl,rfl⟩|⟨rfl,x,y,hx,hy,rfl,rfl⟩)
 · rcases hx:fN a with _|x
   · have h':=h.out
     simp only [Ag,Ct,hx] at h'
     replace h':=hid h'
     have e1:(fN a).getD 0=0:=by rw [hx];rfl
     have e2:(fN a).isSome=false:=by rw [hx];rfl
     clear hx
     have kk1:=@hid _ @J7
     refine wk ?_
     exact ad rfl h'.out
   · have e1:(fN a).getD 0=x:=by rw [hx];rfl
     have e2:(fN a).isSome=true:=by rw [hx];rfl
     have hx':=hid hx
     rcases hy:fN b with _|y
     · have h':=h.out
       simp only [Ag,Ct,hx,hy] at h'
       replace h':=hid h'
       have e3:(fN b).getD 0=0:=by rw [hy];rfl
       have e4:(fN b).isSome=false:=by rw [hy];rfl
       clear hx hy
       have kk1:=@hid _ @J7
       refine wk ?_
       exact ad rfl h'.out
     · have e3:(fN b).getD 0=y:=by rw [hy];rfl
       have e4:(fN b).isSome=true:=by rw [hy];rfl
       have hy':=hid hy
       have e5:=Ua ⟨x,xA hx⟩ ⟨y,xA hy⟩
       simp only at e5
       clear hx hy
       have kk1:=@hid _ @J7
       refine wk ?_
       refine aj 0 _ _ (by omega) (CutL (b:=by simp)) (.inr ⟨rfl,x,y,hid rfl,hid rfl,rfl,?_⟩)
       first|rfl|rw [e5]
 · have h':=h.out
   simp only [Ag,Ct,hx.out,hy.out] at h'
   replace h':=hid h'
   have lx:=xA hx.out
   have ly:=xA hy.out
   have u1:C3 (.int .u8 (16 * (x:Int)+(y:Int)))=true:=rfl
   have u2:AI (.int .u8 (16 * (x:Int)+(y:Int)))=UInt8.ofNat (16 * x+y):=by
     simp only [AI]
     rw [show (16 * (x:Int)+(y:Int)).toNat=16 * x+y by omega]
   refine wk ?_
   exact ad rfl h'.out
set_option maxHeartbeats 8000000
set_option maxRecDepth 100000
def Ee (b:List UInt8):Bool:=b.isEmpty || b.getLast? == some 32
def dk (b:List UInt8) (c:UInt8):List UInt8:=if c=32∧Ee b=true then b else b++[c]
def fK (s:List UInt8):List UInt8:=s.foldl dk []
def pn (b:List UInt8):List UInt8:=if b.getLast?=some 32 then b.dropLast else b
def dX (s:List UInt8):List UInt8:=pn (fK (ae s))
theorem Cf (b:List UInt8) (c:UInt8):(dk b c).length≤b.length+1:=by
 unfold dk;split<;>simp
theorem oM {s:List UInt8} {k:Nat} (h:k<s.length):fK (s.take (k+1))=dk (fK (s.take k)) (s.getD k 0):=by
 rw [List.take_succ_eq_append_getElem h,fK,List.foldl_append]
 simp [fK,h]
theorem ob (s:List UInt8):∀ k,(fK (s.take k)).length≤k
 | 0=>by simp [fK]
 | k+1=>by
   have ih:=ob s k
   by_cases h:k<s.length
   · rw [oM h]
     have:=Cf (fK (s.take k)) (s.getD k 0)
     omega
   · rw [List.take_of_length_le (by omega),← List.take_of_length_le (l:=s) (i:=k) (by omega)];omega
theorem oL {s:List UInt8} (hs:(s.length:Int)≤100000) {L:List Blk} {K:AV→List Blk→Prop} (h:K (.str (dX s)) L):af Tryz.prog 117 [.str s] L K:=by
 replace h:=hid h
 refine ai ED (by simp [pj]) ?_
 simp only [pj,ar]
 obtain ⟨t,ht⟩:∃ t,ae s=t:=⟨_,rfl⟩
 have htl:(t.length:Int)≤100000:=by rw [← ht];simpa [ae] using hs
 have kk1:=@hid _ (fun L K=>w7 hs (L:=L) (K:=K))
 refine wk ?_
 refine dr (l:=[]) (n:=0) 3 1 rfl (Nat.zero_mul 1).symm ?_
 refine am (fun n T' L'=>∃ (k:Nat) (b:List UInt8) (v:List AV) (m:Nat),n=t.length - k∧k≤t.length∧b=fK (t.take k)∧v=u8s b∧m=b.length∧T'=[(10,.int .i64 (k:Int)),(9,.int .i64 t.length),(8,.sl (u8s t) t.length none),(3,.gsl v m L.length 1),(2,.str [])]∧L'=L++[.spare m 1]) (CutS (b:=by simp)) ⟨0,[],[],0,rfl,Nat.zero_le _,rfl,rfl,rfl,rfl,rfl⟩ ?_
 rintro _ _ _ ⟨k,b,v,m,rfl,hk,hb,rfl,rfl,rfl,rfl⟩
 replace hb:=hid hb
 by_cases hlt:k<t.length
 · have h1:(k:Int)<(t.length:Int):=by omega
   have h2:IntKind.i64.wrap ((k:Int)+1)=(k:Int)+1:=ab (by omega) (by omega)
   have hsucc:=hid (oM hlt)
   obtain ⟨c,hc⟩:∃ c,t.getD k 0=c:=⟨_,rfl⟩
   have hg:(u8s t).getD k .undef=.int .u8 c.toNat:=by simp [u8s,hlt,← hc]
   have hlk:k<(u8s t).length:=by simpa [u8s] using hlt
   rw [hc] at hsucc
   have hbl:b.length≤k:=by rw [hb.out];exact ob t k
   have hstep:∀ b',b'=dk b c→b'=fK (t.take (k+1)):=fun b' e=>by rw [hsucc.out,← hb.out];exact e
   have c32:((c.toNat:Int)=32)↔c=32:=⟨fun e=>UInt8.toNat_inj.1 (by have:(32:UInt8).toNat=32:=rfl;omega),fun e=>by rw [e];rfl⟩
   replace hstep:=hid hstep
   replace c32:=hid c32
   clear hsucc hb hc
   have hub:(u8s b).length=b.length:=by simp [u8s]
   have rest:∀ b',b'=dk b c→b'.length≤b.length+1:=fun b' e=>by rw [e];exact Cf b c
   clear rest
   by_cases hc:(c.toNat:Int)=32
   · rcases List.eq_nil_or_concat b with hb0|⟨d,x,hb0⟩
     · have e0:(b.length:Int)=0:=by rw [hb0];rfl
       have e1:=hid (hstep.out b (by rw [dk,if_pos ⟨c32.out.1 hc,by rw [hb0];rfl⟩]))
       clear hb0
       refine wk ?_
       exact aj _ _ _ (by omega) (CutS (b:=by simp)) ⟨k+1,b,_,_,rfl,hlt,e1.out,rfl,rfl,rfl,rfl⟩
     · have e0:¬ (b.length:Int)=0:=by rw [hb0];simp;omega
       have e1:IntKind.i64.wrap ((b.length:Int) - 1)=(d.length:Int):=by rw [ab (by omega) (by omega),hb0];simp
       have e2:(u8s b).getD d.length .undef=.int .u8 x.toNat:=by rw [hb0];simp [u8s,List.getD_eq_getElem?_getD]
       have e3:d.length<(u8s b).length:=by rw [hb0];simp [u8s]
       have e4:(d.length:Int)<(b.length:Int):=by rw [hb0];simp;omega
       have x32:x=32↔(x.toNat:Int)=32:=⟨fun e=>by rw [e];rfl,fun e=>UInt8.toNat_inj.1 (by have:(32:UInt8).toNat=32:=rfl;omega)⟩
       have hend:Ee b=true↔x=32:=by rw [hb0];simp [Ee]
       replace hb0:=hid hb0
       replace x32:=hid x32
       replace hend:=hid hend
       by_cases hx:(x.toNat:Int)=32
       · have e5:=hid (hstep.out b (by rw [dk,if_pos ⟨c32.out.1 hc,hend.out.2 (x32.out.2 hx)⟩]))
         refine wk ?_
         exact aj _ _ _ (by omega) (CutS (b:=by simp)) ⟨k+1,b,_,_,rfl,hlt,e5.out,rfl,rfl,rfl,rfl⟩
       · have e5:=hid (hstep.out (b++[c]) (by rw [dk,if_neg fun e=>hx (x32.out.1 (hend.out.1 e.2))]))
         refine wk ?_
         exact aj _ _ _ (by omega) (CutS (b:=by simp)) ⟨k+1,b++[c],_,_,rfl,hlt,e5.out,(by rw [EI,hc]),(by simp),rfl,rfl⟩
   · have e1:=hid (hstep.out (b++[c]) (by rw [dk,if_neg fun e=>hc (c32.out.2 e.1)]))
     refine wk ?_
     exact aj _ _ _ (by omega) (CutS (b:=by simp)) ⟨k+1,b++[c],_,_,rfl,hlt,e1.out,(EI b c).symm,(by simp),rfl,rfl⟩
 · have hke:k=t.length:=by omega
   subst hke
   have h1:¬ (t.length:Int)<(t.length:Int):=by omega
   have hbl:b.length≤t.length:=by rw [hb.out];exact ob t _
   have hub:(u8s b).length=b.length:=by simp [u8s]
   have hfin:pn b=dX s:=by rw [dX,ht,hb.out,List.take_length]
   have e1:=fE b
   have e2:=fe b
   replace hb:=hid hfin
   clear hfin
   rcases List.eq_nil_or_concat b with hb0|⟨d,x,hb0⟩
   · have e0:¬ (0:Int)<(b.length:Int):=by rw [hb0];simp
     have e3:=hid (show b=dX s by rw [← hb.out,hb0];rfl)
     clear hb0
     refine wk ?_
     refine ad rfl ?_
     rw [e3.out];exact h.out
   · have e0:(0:Int)<(b.length:Int):=by rw [hb0];simp;try omega
     have e3:IntKind.i64.wrap ((b.length:Int) - 1)=(d.length:Int):=by rw [ab (by omega) (by omega),hb0];simp
     have e4:(u8s b).getD d.length .undef=.int .u8 x.toNat:=by rw [hb0];simp [u8s,List.getD_eq_getElem?_getD]
     have e5:d.length<(u8s b).length:=by rw [hb0];simp [u8s]
     have e6:(d.length:Int)<(b.length:Int):=by rw [hb0];simp;omega
     have e7:(u8s b).take d.length=u8s d:=by rw [hb0];simp [u8s]
     have e10:(u8s d).length=d.length:=by simp [u8s]
     have e8:=fE d
     have e9:=fe d
     have x32:x=32↔(x.toNat:Int)=32:=⟨fun e=>by rw [e];rfl,fun e=>UInt8.toNat_inj.1 (by have:(32:UInt8).toNat=32:=rfl;omega)⟩
     have htr:pn b=if x=32 then d else b:=by rw [hb0];simp [pn]
     replace hb0:=hid hb0
     replace htr:=hid htr
     by_cases hx:(x.toNat:Int)=32
     · have r:=hid (show d=dX s by rw [← hb.out,htr.out,if_pos (x32.2 hx)])
       replace x32:=hid x32
       refine wk ?_
       refine ad rfl ?_
       rw [r.out];exact h.out
     · have r:=hid (show b=dX s by rw [← hb.out,htr.out,if_neg fun e=>hx (x32.1 e)])
       replace x32:=hid x32
       refine wk ?_
       refine ad rfl ?_
       rw [r.out];exact h.out
end Go.Proofs.YtohflefnbajajaaGreatDoor.Av
