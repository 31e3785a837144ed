/- Joined texts of the walk, made small by a program. -/
import Derived.Test.YtgpnbkdcdmfgcaaGreatXP4
import Derived.Test.YtgpnbkdcdmfgcaaGreatRows
import Derived.KernelRfl
import Derived.Test.YtgpnbkdcdmfgcaaGreatXP5
set_option linter.unusedSimpArgs false
set_option linter.unusedVariables false
set_option maxRecDepth 100000
namespace Go.Proofs.YtgpnbkdcdmfgcaaGreat.Av
open Go
def uB:List SOp :=
 [o1 2 (.mv (.av (.str [])))]
def uA:List SOp :=
 [o1 6 (.mv (tm 0)),
 o1 7 (.s2bO (tm 6)),
 o1 3 (.mv (tm 7))]
def uz:List SOp :=
 [o1 8 (.mv (tm 3)),
 o1 9 (.len false (tm 8)),
 o1 10 (.mv (iv 0))]
def uy:List SOp :=
 [o1 11 (.bin .lss (tm 10) (tm 9))]
def ux:List SOp :=
 [o1 12 (.mv (tm 10)),
 o1 13 (.iaddr 1 (tm 8) (tm 10)),
 o1 14 (.load false 1 (tm 13)),
 o1 4 (.mv (tm 12)),
 o1 5 (.mv (tm 14))]
def uw:List SOp :=
 [o1 15 (.mv (tm 5)),
 o1 16 (.bin .geq (tm 15) (.av (.int .u8 65))),
 o1 17 (.mv (tm 16)),
 .grp none 17 true
 [og 18 17 true (.mv (tm 5)),
 og 19 17 true (.bin .leq (tm 18) (.av (.int .u8 90)))]
 20 (tm 19)]
def uv:List SOp :=
 [o1 21 (.mv (tm 3)),
 o1 22 (.mv (tm 4)),
 o1 23 (.mv (tm 5)),
 o1 24 (.bin .add (tm 23) (.av (.int .u8 32))),
 o1 25 (.iaddr 1 (tm 21) (tm 22)),
 o0 (.store 1 (tm 25) (tm 24))]
def uu:List SOp :=
 [o1 26 (.bin .add (tm 10) (iv 1)),
 o1 10 (.mv (tm 26))]
def ut:List SOp :=
 [o1 27 (.mv (tm 3)),
 o1 28 (.b2s (tm 27)),
 o1 2 (.mv (tm 28))]
def nB:aK:=⟨29,(.seq (.sreg uB [])
 (.seq (.sreg uA [true,false,false])
 (.seq (.seq (.sreg uz [])
 (.block 0 (.loop (.seq (.sreg uy [])
 (.seq (.cond (tm 11) .skip
 (.exit 0))
 (.seq (.block 1 (.seq (.sreg ux [true,true,false,false,false])
 (.seq (.sreg uw [true,false,false,false])
 (.cond (tm 20) (.sreg uv [false,false,false,false,false])
 .skip))))
 (.sreg uu [true,false])))))))
 (.seq (.sreg ut [true,false,false])
 .ret)))),[(.tmp 2)]⟩
attribute [push_cast] uB uA uz uy ux uw uv uu ut
theorem Cl:aQ Tryz.prog (fun r i=>if r=1∧i=1 then 2 else 1) 64=some nB.raw:=by kernel_rfl
def ur:List SOp :=
 [o1 2 (.mv (.av (.str [])))]
def uq:List SOp :=
 [o1 3 (.mv (.av (.sl [] 0 (some 0))))]
def uo:List SOp :=
 [o1 6 (.mv (tm 0)),
 o1 7 (.call 64 [(tm 6)]),
 o1 8 (.s2b (tm 7)),
 o1 9 (.len false (tm 8)),
 o1 10 (.mv (iv 0))]
def um:List SOp :=
 [o1 11 (.bin .lss (tm 10) (tm 9))]
def ul:List SOp :=
 [o1 12 (.iaddr 1 (tm 8) (tm 10)),
 o1 13 (.load false 1 (tm 12)),
 o1 5 (.mv (tm 13))]
def uk:List SOp :=
 [o1 14 (.mv (tm 5)),
 o1 15 (.bin .eql (tm 14) (.av (.int .u8 32))),
 o1 16 (.mv (tm 15)),
 .grp none 16 true
 [og 17 16 true (.mv (tm 3)),
 og 18 16 true (.len false (tm 17)),
 og 19 16 true (.bin .eql (tm 18) (iv 0)),
 og 20 16 true (.mv (tm 19)),
 .grp (some (16,true)) 20 false
 [og 21 20 false (.mv (tm 3)),
 og 22 20 false (.mv (tm 3)),
 og 23 20 false (.len false (tm 22)),
 og 24 20 false (.bin .sub (tm 23) (iv 1)),
 og 25 20 false (.iaddr 1 (tm 21) (tm 24)),
 og 26 20 false (.load false 1 (tm 25)),
 og 27 20 false (.bin .eql (tm 26) (.av (.int .u8 32)))]
 28 (tm 27)]
 29 (tm 28)]
def uj:List SOp :=
 [o1 30 (.mv (tm 3)),
 o1 31 (.mv (tm 5)),
 o1 32 (.bslice false 1 1 [(.int .u8 0)] [(0,(1,(tm 31)))]),
 o1 33 (.app 1 1 1 [(.int .u8 0)] (tm 30) (tm 32)),
 o1 3 (.mv (tm 33))]
def ui:List SOp :=
 [o1 34 (.bin .add (tm 10) (iv 1)),
 o1 10 (.mv (tm 34))]
def uh:List SOp :=
 [o1 35 (.mv (tm 3)),
 o1 36 (.len false (tm 35)),
 o1 37 (.bin .gtr (tm 36) (iv 0)),
 o1 38 (.mv (tm 37)),
 .grp none 38 true
 [og 39 38 true (.mv (tm 3)),
 og 40 38 true (.mv (tm 3)),
 og 41 38 true (.len false (tm 40)),
 og 42 38 true (.bin .sub (tm 41) (iv 1)),
 og 43 38 true (.iaddr 1 (tm 39) (tm 42)),
 og 44 38 true (.load false 1 (tm 43)),
 og 45 38 true (.bin .eql (tm 44) (.av (.int .u8 32)))]
 46 (tm 45)]
def ug:List SOp :=
 [o1 47 (.mv (tm 3)),
 o1 48 (.mv (tm 3)),
 o1 49 (.len false (tm 48)),
 o1 50 (.bin .sub (tm 49) (iv 1)),
 o1 51 (.slV 1 (tm 47) none (some (tm 50)) none),
 o1 3 (.mv (tm 51))]
def q9:List SOp :=
 [o1 52 (.mv (tm 3)),
 o1 53 (.b2s (tm 52)),
 o1 2 (.mv (tm 53))]
def nA:aK:=⟨54,(.seq (.sreg ur [])
 (.seq (.sreg uq [])
 (.seq (.seq (.sreg uo [true,true,true,false,false])
 (.block 0 (.loop (.seq (.sreg um [])
 (.seq (.cond (tm 11) .skip
 (.exit 0))
 (.seq (.block 1 (.seq (.sreg ul [true,false,false])
 (.seq (.seq (.sreg uk [true,false,false,false])
 (.cond (tm 29) (.exit 1)
 .skip))
 (.sreg uj [true,false,false,false,false]))))
 (.sreg ui [true,false])))))))
 (.seq (.seq (.sreg uh [true,false,false,false,false])
 (.cond (tm 46) (.sreg ug [true,false,false,false,false,false])
 .skip))
 (.seq (.sreg q9 [true,false,false])
 .ret))))),[(.tmp 2)]⟩
attribute [push_cast] ur uq uo um ul uk uj ui uh ug q9
theorem Ck:aQ Tryz.prog (fun _ _=>1) 65=some nA.raw:=by kernel_rfl
def tZ:List SOp :=
 [o1 2 (.mv (.av (.str [])))]
def tY:List SOp :=
 [o1 3 (.mv (.av (.sl [] 0 (some 0))))]
def tX:List SOp :=
 [o1 4 (.mv (iv 0))]
def tW:List SOp :=
 [o1 6 (.mv (tm 4)),
 o1 7 (.mv (tm 0)),
 o1 8 (.len true (tm 7)),
 o1 9 (.bin .lss (tm 6) (tm 8))]
def tV:List SOp :=
 [o1 12 (.mv (tm 0)),
 o1 13 (.mv (tm 4)),
 o1 14 (.idxS (tm 12) (tm 13)),
 o1 5 (.mv (tm 14))]
def tU:List SOp :=
 [o1 15 (.mv (tm 5)),
 o1 16 (.bin .geq (tm 15) (.av (.int .u8 65))),
 o1 17 (.mv (tm 16)),
 .grp none 17 true
 [og 18 17 true (.mv (tm 5)),
 og 19 17 true (.bin .leq (tm 18) (.av (.int .u8 90)))]
 20 (tm 19)]
def tT:List SOp :=
 [o1 21 (.mv (tm 5)),
 o1 22 (.bin .sub (tm 21) (.av (.int .u8 65))),
 o1 23 (.bin .add (tm 22) (.av (.int .u8 97))),
 o1 5 (.mv (tm 23))]
def tS:List SOp :=
 [o1 24 (.mv (tm 3)),
 o1 25 (.mv (tm 5)),
 o1 26 (.bslice false 1 1 [(.int .u8 0)] [(0,(1,(tm 25)))]),
 o1 27 (.app 1 1 1 [(.int .u8 0)] (tm 24) (tm 26)),
 o1 3 (.mv (tm 27))]
def tR:List SOp :=
 [o1 10 (.mv (tm 4)),
 o1 11 (.bin .add (tm 10) (iv 1)),
 o1 4 (.mv (tm 11))]
def tQ:List SOp :=
 [o1 28 (.mv (tm 3)),
 o1 29 (.b2s (tm 28)),
 o1 2 (.mv (tm 29))]
def ny:aK:=⟨30,(.seq (.sreg tZ [])
 (.seq (.sreg tY [])
 (.seq (.seq (.sreg tX [])
 (.block 0 (.loop (.seq (.seq (.sreg tW [true,false,false,false])
 (.cond (tm 9) .skip
 (.exit 0)))
 (.seq (.block 1 (.seq (.sreg tV [true,false,false,false])
 (.seq (.seq (.sreg tU [true,false,false,false])
 (.cond (tm 20) (.sreg tT [true,false,false,false])
 .skip))
 (.sreg tS [true,false,false,false,false]))))
 (.sreg tR [true,false,false]))))))
 (.seq (.sreg tQ [true,false,false])
 .ret)))),[(.tmp 2)]⟩
attribute [push_cast] tZ tY tX tW tV tU tT tS tR tQ
theorem Ci:aQ Tryz.prog (fun _ _=>1) 70=some ny.raw:=by kernel_rfl
def ue:List SOp :=
 [o1 2 (.mv (.av (.int .u8 0))),
 o1 3 (.mv (.av (.bool false)))]
def ud:List SOp :=
 [o1 5 (.mv (tm 0)),
 o1 6 (.bin .geq (tm 5) (.av (.int .u8 48))),
 o1 7 (.mv (tm 6)),
 .grp none 7 true
 [og 8 7 true (.mv (tm 0)),
 og 9 7 true (.bin .leq (tm 8) (.av (.int .u8 57)))]
 10 (tm 9),
 o1 4 (.mv (tm 10))]
def uc:List SOp :=
 [o1 11 (.mv (tm 0)),
 o1 12 (.bin .sub (tm 11) (.av (.int .u8 48))),
 o1 2 (.mv (tm 12)),
 o1 3 (.mv (.av (.bool true)))]
def ub:List SOp :=
 [o1 14 (.mv (tm 0)),
 o1 15 (.bin .geq (tm 14) (.av (.int .u8 97))),
 o1 16 (.mv (tm 15)),
 .grp none 16 true
 [og 17 16 true (.mv (tm 0)),
 og 18 16 true (.bin .leq (tm 17) (.av (.int .u8 102)))]
 19 (tm 18),
 o1 13 (.mv (tm 19))]
def ua:List SOp :=
 [o1 20 (.mv (tm 0)),
 o1 21 (.bin .sub (tm 20) (.av (.int .u8 97))),
 o1 22 (.bin .add (tm 21) (.av (.int .u8 10))),
 o1 2 (.mv (tm 22)),
 o1 3 (.mv (.av (.bool true)))]
def t8:List SOp :=
 [o1 24 (.mv (tm 0)),
 o1 25 (.bin .geq (tm 24) (.av (.int .u8 65))),
 o1 26 (.mv (tm 25)),
 .grp none 26 true
 [og 27 26 true (.mv (tm 0)),
 og 28 26 true (.bin .leq (tm 27) (.av (.int .u8 70)))]
 29 (tm 28),
 o1 23 (.mv (tm 29))]
def t7:List SOp :=
 [o1 30 (.mv (tm 0)),
 o1 31 (.bin .sub (tm 30) (.av (.int .u8 65))),
 o1 32 (.bin .add (tm 31) (.av (.int .u8 10))),
 o1 2 (.mv (tm 32)),
 o1 3 (.mv (.av (.bool true)))]
def t6:List SOp :=
 [o1 2 (.mv (.av (.int .u8 0))),
 o1 3 (.mv (.av (.bool false)))]
def nz:aK:=⟨33,(.seq (.sreg ue [])
 (.seq (.block 0 (.seq (.sreg ud [true,false,false,false,false])
 (.cond (tm 4) (.seq (.sreg uc [true,true,false,false])
 .ret)
 (.seq (.sreg ub [true,false,false,false,false])
 (.cond (tm 13) (.seq (.sreg ua [true,true,false,false,false])
 .ret)
 (.seq (.sreg t8 [true,false,false,false,false])
 (.cond (tm 23) (.seq (.sreg t7 [true,true,false,false,false])
 .ret)
 .skip)))))))
 (.seq (.sreg t6 [])
 .ret))),[(.tmp 2),(.tmp 3)]⟩
attribute [push_cast] ue ud uc ub ua t8 t7 t6
theorem Cj:aQ Tryz.prog (fun _ _=>1) 128=some nz.raw:=by kernel_rfl
def q0:List SOp :=
 [o1 2 (.mv (.av (.str []))),
 o1 3 (.mv (.av (.bool false)))]
def qZ:List SOp :=
 [o1 10 (.mv (tm 0)),
 o1 11 (.len true (tm 10)),
 o1 12 (.bin .rem (tm 11) (iv 2)),
 o1 13 (.bin .eql (tm 12) (iv 1))]
def qY:List SOp :=
 [o1 2 (.mv (.av (.str []))),
 o1 3 (.mv (.av (.bool false)))]
def qX:List SOp :=
 [o1 14 (.mv (tm 0)),
 o1 15 (.len true (tm 14)),
 o1 16 (.bin .quo (tm 15) (iv 2)),
 o1 17 (.mkslice 1 1 [(.int .u8 0)] (iv 0) (tm 16)),
 o1 4 (.mv (tm 17))]
def qW:List SOp :=
 [o1 5 (.mv (iv 0))]
def qV:List SOp :=
 [o1 18 (.mv (tm 5)),
 o1 19 (.mv (tm 0)),
 o1 20 (.len true (tm 19)),
 o1 21 (.bin .lss (tm 18) (tm 20))]
def qU:List SOp :=
 [o1 25 (.mv (tm 0)),
 o1 26 (.mv (tm 5)),
 o1 27 (.idxS (tm 25) (tm 26)),
 o1 28 (.call 128 [(tm 27)]),
 o1 24 (.mv (tm 28)),
 o1 29 (.extract (tm 24) 0),
 o1 30 (.extract (tm 24) 1),
 o1 6 (.mv (tm 29)),
 o1 7 (.mv (tm 30))]
def qT:List SOp :=
 [o1 32 (.mv (tm 0)),
 o1 33 (.mv (tm 5)),
 o1 34 (.bin .add (tm 33) (iv 1)),
 o1 35 (.idxS (tm 32) (tm 34)),
 o1 36 (.call 128 [(tm 35)]),
 o1 31 (.mv (tm 36)),
 o1 37 (.extract (tm 31) 0),
 o1 38 (.extract (tm 31) 1),
 o1 8 (.mv (tm 37)),
 o1 9 (.mv (tm 38))]
def qS:List SOp :=
 [o1 39 (.mv (tm 7)),
 o1 40 (.un .not (tm 39)),
 o1 41 (.mv (tm 40)),
 .grp none 41 false
 [og 42 41 false (.mv (tm 9)),
 og 43 41 false (.un .not (tm 42))]
 44 (tm 43)]
def qR:List SOp :=
 [o1 2 (.mv (.av (.str []))),
 o1 3 (.mv (.av (.bool false)))]
def mU:List SOp :=
 [o1 45 (.mv (tm 4)),
 o1 46 (.mv (tm 6)),
 o1 47 (.bin .shl (tm 46) (.av (.int .u64 4))),
 o1 48 (.mv (tm 8)),
 o1 49 (.bin .or (tm 47) (tm 48)),
 o1 50 (.bslice false 1 1 [(.int .u8 0)] [(0,(1,(tm 49)))]),
 o1 51 (.app 1 1 1 [(.int .u8 0)] (tm 45) (tm 50)),
 o1 4 (.mv (tm 51))]
def mT:List SOp :=
 [o1 22 (.mv (tm 5)),
 o1 23 (.bin .add (tm 22) (iv 2)),
 o1 5 (.mv (tm 23))]
def mS:List SOp :=
 [o1 52 (.mv (tm 4)),
 o1 53 (.b2s (tm 52)),
 o1 2 (.mv (tm 53)),
 o1 3 (.mv (.av (.bool true)))]
def j8:aK:=⟨54,(.seq (.sreg q0 [])
 (.seq (.seq (.sreg qZ [true,false,false,false])
 (.cond (tm 13) (.seq (.sreg qY [])
 .ret)
 .skip))
 (.seq (.sreg qX [true,false,false,false,false])
 (.seq (.seq (.sreg qW [])
 (.block 0 (.loop (.seq (.seq (.sreg qV [true,false,false,false])
 (.cond (tm 21) .skip
 (.exit 0)))
 (.seq (.block 1 (.seq (.sreg qU [true,true,false,false,false,false,false,false,false])
 (.seq (.sreg qT [true,true,false,false,false,false,false,false,false,false])
 (.seq (.seq (.sreg qS [true,false,false,false])
 (.cond (tm 44) (.seq (.sreg qR [])
 .ret)
 .skip))
 (.sreg mU [true,false,false,false,false,false,false,false])))))
 (.sreg mT [true,false,false]))))))
 (.seq (.sreg mS [true,true,false,false])
 .ret))))),[(.tmp 2),(.tmp 3)]⟩
attribute [push_cast] q0 qZ qY qX qW qV qU qT qS qR mU mT mS
theorem A0:aQ Tryz.prog (fun _ _=>1) 101=some j8.raw:=by kernel_rfl
def p7:List SOp :=
 [o1 2 (.mv (.av (.int .u8 0)))]
def p4:List SOp :=
 [o1 3 (.mv (tm 0)),
 o1 4 (.bin .lss (tm 3) (.av (.int .u8 10)))]
def pZ:List SOp :=
 [o1 5 (.mv (tm 0)),
 o1 6 (.bin .add (.av (.int .u8 48)) (tm 5)),
 o1 2 (.mv (tm 6))]
def pY:List SOp :=
 [o1 7 (.mv (tm 0)),
 o1 8 (.bin .add (.av (.int .u8 97)) (tm 7)),
 o1 9 (.bin .sub (tm 8) (.av (.int .u8 10))),
 o1 2 (.mv (tm 9))]
def j4:aK:=⟨10,(.seq (.sreg p7 [])
 (.seq (.seq (.sreg p4 [true,false])
 (.cond (tm 4) (.seq (.sreg pZ [true,false,false])
 .ret)
 .skip))
 (.seq (.sreg pY [true,false,false,false])
 .ret))),[(.tmp 2)]⟩
attribute [push_cast] p7 p4 pZ pY
theorem AU:aQ Tryz.prog (fun _ _=>1) 104=some j4.raw:=by kernel_rfl
def qi:List SOp :=
 [o1 2 (.mv (.av (.str []))),
 o1 3 (.mv (.av (.bool false)))]
def qh:List SOp :=
 [o1 4 (.mv (.av (.sl [] 0 (some 0))))]
def qg:List SOp :=
 [o1 9 (.mv (tm 0)),
 o1 10 (.call 70 [(tm 9)]),
 o1 5 (.mv (tm 10))]
def qf:List SOp :=
 [o1 6 (.mv (iv 0))]
def qe:List SOp :=
 [o1 11 (.mv (tm 6)),
 o1 12 (.bin .add (tm 11) (iv 1)),
 o1 13 (.mv (tm 5)),
 o1 14 (.len true (tm 13)),
 o1 15 (.bin .lss (tm 12) (tm 14))]
def qd:List SOp :=
 [o1 7 (.mv (.av (.bool false)))]
def qc:List SOp :=
 [o1 8 (.mv (iv 0))]
def qa:List SOp :=
 [o1 18 (.mv (tm 8)),
 o1 19 (.bin .lss (tm 18) (iv 256)),
 o1 20 (.mv (tm 19)),
 .grp none 20 true
 [og 21 20 true (.mv (tm 7)),
 og 22 20 true (.un .not (tm 21))]
 23 (tm 22)]
def p9:List SOp :=
 [o1 26 (.mv (tm 8)),
 o1 27 (.bin .quo (tm 26) (iv 16)),
 o1 28 (.conv .u8 (tm 27)),
 o1 29 (.call 104 [(tm 28)]),
 o1 30 (.mv (tm 5)),
 o1 31 (.mv (tm 6)),
 o1 32 (.idxS (tm 30) (tm 31)),
 o1 33 (.bin .eql (tm 29) (tm 32)),
 o1 34 (.mv (tm 33)),
 .grp none 34 true
 [og 35 34 true (.mv (tm 8)),
 og 36 34 true (.bin .rem (tm 35) (iv 16)),
 og 37 34 true (.conv .u8 (tm 36)),
 og 38 34 true (.call 104 [(tm 37)]),
 og 39 34 true (.mv (tm 5)),
 og 40 34 true (.mv (tm 6)),
 og 41 34 true (.bin .add (tm 40) (iv 1)),
 og 42 34 true (.idxS (tm 39) (tm 41)),
 og 43 34 true (.bin .eql (tm 38) (tm 42))]
 44 (tm 43)]
def p8:List SOp :=
 [o1 45 (.mv (tm 4)),
 o1 46 (.mv (tm 8)),
 o1 47 (.conv .u8 (tm 46)),
 o1 48 (.bslice false 1 1 [(.int .u8 0)] [(0,(1,(tm 47)))]),
 o1 49 (.app 1 1 1 [(.int .u8 0)] (tm 45) (tm 48)),
 o1 4 (.mv (tm 49))]
def l9:List SOp :=
 [o1 7 (.mv (.av (.bool true)))]
def l8:List SOp :=
 [o1 24 (.mv (tm 8)),
 o1 25 (.bin .add (tm 24) (iv 1)),
 o1 8 (.mv (tm 25))]
def l7:List SOp :=
 [o1 50 (.mv (tm 7)),
 o1 51 (.un .not (tm 50))]
def l6:List SOp :=
 [o1 2 (.mv (.av (.str []))),
 o1 3 (.mv (.av (.bool false)))]
def l5:List SOp :=
 [o1 16 (.mv (tm 6)),
 o1 17 (.bin .add (tm 16) (iv 2)),
 o1 6 (.mv (tm 17))]
def l4:List SOp :=
 [o1 52 (.mv (tm 0)),
 o1 53 (.len true (tm 52)),
 o1 54 (.bin .rem (tm 53) (iv 2)),
 o1 55 (.bin .eql (tm 54) (iv 1))]
def l3:List SOp :=
 [o1 2 (.mv (.av (.str []))),
 o1 3 (.mv (.av (.bool false)))]
def l0:List SOp :=
 [o1 56 (.mv (tm 4)),
 o1 57 (.b2s (tm 56)),
 o1 2 (.mv (tm 57)),
 o1 3 (.mv (.av (.bool true)))]
def j5:aK:=⟨58,(.seq (.sreg qi [])
 (.seq (.sreg qh [])
 (.seq (.sreg qg [true,false,false])
 (.seq (.seq (.sreg qf [])
 (.block 0 (.loop (.seq (.seq (.sreg qe [true,false,false,false,false])
 (.cond (tm 15) .skip
 (.exit 0)))
 (.seq (.block 1 (.seq (.sreg qd [])
 (.seq (.seq (.sreg qc [])
 (.block 2 (.loop (.seq (.seq (.sreg qa [true,false,false,false])
 (.cond (tm 23) .skip
 (.exit 2)))
 (.seq (.block 3 (.seq (.sdreg p9 [.pure,.pure,.pure,(.read 0 0),.pure,.pure,(.read 0 0),.pure,.pure,.pure,.pure,.pure,(.read 0 0),.pure,.pure,.pure,(.read 0 0)] [true,false,false,false,false,false,false,false,false,false])
 (.cond (tm 44) (.seq (.sreg p8 [true,false,false,false,false,false])
 (.sreg l9 []))
 .skip)))
 (.sreg l8 [true,false,false]))))))
 (.seq (.sreg l7 [true,false])
 (.cond (tm 51) (.seq (.sreg l6 [])
 .ret)
 .skip)))))
 (.sreg l5 [true,false,false]))))))
 (.seq (.seq (.sreg l4 [true,false,false,false])
 (.cond (tm 55) (.seq (.sreg l3 [])
 .ret)
 .skip))
 (.seq (.sreg l0 [true,true,false,false])
 .ret)))))),[(.tmp 2),(.tmp 3)]⟩
attribute [push_cast] qi qh qg qf qe qd qc qa p9 p8 l9 l8 l7 l6 l5 l4 l3 l0
theorem AX:aQ Tryz.prog (fun _ _=>1) 79=some j5.raw:=by kernel_rfl
set_option maxHeartbeats 8000000
set_option maxRecDepth 100000
def gb (c:UInt8):UInt8:=if 65≤c.toNat∧c.toNat≤90 then c+32 else c
def ax (s:List UInt8):List UInt8:=s.map gb
theorem Ht {c:UInt8} (h1:65≤c.toNat) (h2:c.toNat≤90):((gb c).toNat:Int)=(c.toNat:Int)+32:=by
 rw [gb,if_pos ⟨h1,h2⟩,UInt8.toNat_add]
 have:(32:UInt8).toNat=32:=rfl
 omega
theorem FB {c:UInt8} (h:¬ (65≤c.toNat∧c.toNat≤90)):gb c=c:=by rw [gb,if_neg h]
theorem fT (l:List UInt8):(u8s l).all C6=true:=by
 simp only [u8s,List.all_map,List.all_eq_true]
 intro x _
 have:=x.toNat_lt
 simp [C6]
theorem eY (l:List UInt8):(u8s l).map jW=l:=by
 induction l with
 | nil=>rfl
 | cons x l ih =>
   simp only [u8s,List.map_cons,List.map_map] at ih ⊢
   rw [ih]
   simp [jW]
theorem Cn (l:List UInt8) (c:UInt8):u8s (l++[c])=u8s l++[.int .u8 c.toNat]:=by simp [u8s]
theorem De {s:List UInt8} {k:Nat} (h:k<s.length):ax (s.take (k+1))=ax (s.take k)++[gb (s.getD k 0)]:=by
 rw [List.take_succ_eq_append_getElem h,ax,List.map_append]
 simp [ax,h]
theorem Fi {s:List UInt8} (hs:(s.length:Int)≤140737488351232) {L:List Blk} {K:AV→List Blk→Prop} (h:K (.str (ax s)) L):ad Tryz.prog 70 [.str s] L K:=by
 replace h:=hid h
 refine ac Ci (by simp [ny]) ?_
 simp only [ny,aj]
 refine wk ?_
 refine cj (l:=[]) (n:=0) 3 1 rfl (Nat.zero_mul 1).symm ?_
 refine ak (fun n T' L'=>∃ (k:Nat) (v:List AV),n=s.length - k∧k≤s.length∧v=u8s (ax (s.take k))∧T'=[(4,.int .i64 (k:Int)),(3,.gsl v k L.length 1),(2,.str []),(0,.str s)]∧L'=L++[.spare k 1]) (CutS (b:=by simp)) ⟨0,[],rfl,Nat.zero_le _,rfl,rfl,rfl⟩ ?_
 rintro _ _ _ ⟨k,v,rfl,hk,rfl,rfl,rfl⟩
 by_cases hlt:k<s.length
 · have h1:(k:Int)<(s.length:Int):=by omega
   have h2:IntKind.i64.wrap ((k:Int)+1)=(k:Int)+1:=ab (by omega) (by omega)
   have hsucc:=hid (De hlt)
   have e:s.getD k 0=s.getD k 0:=rfl
   obtain ⟨c,hc⟩:∃ c,s.getD k 0=c:=⟨_,rfl⟩
   rw [hc] at hsucc
   have hc255:=c.toNat_lt
   by_cases hu:65≤c.toNat∧c.toNat≤90
   · have u1:(65:Int)≤(c.toNat:Int):=by omega
     have u2:(c.toNat:Int)≤90:=by omega
     have u3:=hid (Ht hu.1 hu.2)
     have u4:IntKind.u8.wrap ((c.toNat:Int) - 65)=(c.toNat:Int) - 65:=bd (by omega) (by omega)
     have u5:IntKind.u8.wrap ((c.toNat:Int) - 65+97)=(c.toNat:Int) - 65+97:=bd (by omega) (by omega)
     clear hu
     refine wk ?_
     refine an _ _ _ (by omega) (CutS (b:=by simp)) ⟨k+1,_,rfl,hlt,?_,rfl,rfl⟩
     rw [hsucc.out,Cn,u3.out]
     simp only [show (c.toNat:Int) - 65+97=c.toNat+32 by omega]
   · have u3:=hid (FB hu)
     have u4:¬ ((65:Int)≤(c.toNat:Int)∧(c.toNat:Int)≤90):=by omega
     have u5:(decide ((65:Int)≤(c.toNat:Int)) && decide ((c.toNat:Int)≤90))=false:=by simp;omega
     clear hu
     repeat' first
       | refine cc ?_
       | (first|refine bs (by kernel_rfl) ?_|refine aT (by kernel_rfl) ?_|refine aU ?_|refine dw ?_|refine bY (fun _=>?_)|refine aF ?_|refine bv ?_)
         refine sm ?_
       | (first|refine bo (by kernel_rfl) ?_|refine bt ?_|refine bu ?_|refine ce (aE ?_))
         refine sl ?_
       | exact bZ
       | first|apply b9|apply bp|apply ca|apply bq|apply cb|apply br
       | refine aX ?_
       | first|refine aV rfl ?_|refine aW rfl ?_|refine aA rfl ?_ ?_|refine ba rfl (fun _=>?_) (fun _=>?_)|refine a8 rfl (fun _=>?_) (fun _=>?_)
       | ((first|refine ay (fun _=>?_) (fun _=>?_)|refine aC (fun _=>?_) (fun _=>?_))<;>try refine sm ?_)
       | refine And.intro trivial ?_
       | refine And.intro (by omega) ?_
       | refine aY rfl (fun _=>?_) (fun _=>?_)
       | refine And.intro ?_ ?_
     all_goals first
       | omega
       | (refine an _ _ _ (by omega) (CutS (b := by simp)) ⟨k + 1, _, rfl, hlt, ?_, rfl, rfl⟩
          rw [hsucc.out,Cn,u3.out])
 · have hke:k=s.length:=by omega
   subst hke
   have h1:¬ (s.length:Int)<(s.length:Int):=by omega
   have e1:=fT (ax s)
   have e2:=eY (ax s)
   have e3:s.take s.length=s:=List.take_length
   refine wk ?_
   exact aa rfl h.out
theorem K1 {s:List UInt8} (hs:(s.length:Int)≤140737488351232) {L:List Blk} {K:AV→List Blk→Prop} (h:K (.str (ax s)) L):ad Tryz.prog 64 [.str s] L K:=by
 replace h:=hid h
 refine ac Cl (by simp [nB]) ?_
 simp only [nB,aj]
 refine wk ?_
 refine ak (fun n T' L'=>∃ (k:Nat) (v:List AV),n=s.length - k∧k≤s.length∧v=u8s (ax (s.take k)++s.drop k)∧T'=[(10,.int .i64 (k:Int)),(9,.int .i64 s.length),(8,.lsl L.length 0 s.length none 1),(3,.lsl L.length 0 s.length none 1),(2,.str [])]∧L'=L++[.bytes v]) (CutS (b:=by simp)) ⟨0,_,rfl,Nat.zero_le _,rfl,rfl,rfl⟩ ?_
 rintro _ _ _ ⟨k,v,rfl,hk,hv,rfl,rfl⟩
 by_cases hlt:k<s.length
 · have h1:(k:Int)<(s.length:Int):=by omega
   have h2:IntKind.i64.wrap ((k:Int)+1)=(k:Int)+1:=ab (by omega) (by omega)
   obtain ⟨c,hc⟩:∃ c,s.getD k 0=c:=⟨_,rfl⟩
   have hd:s.drop k=c::s.drop (k+1):=by
     rw [List.drop_eq_getElem_cons hlt,← hc,List.getD_eq_getElem?_getD,List.getElem?_eq_getElem hlt];rfl
   have hlk:(ax (s.take k)).length=k:=by simp [ax];omega
   have hv1:v=u8s (ax (s.take k)) ++ .int .u8 c.toNat::u8s (s.drop (k+1)):=by rw [hv,hd];simp [u8s]
   have hl2:(u8s (ax (s.take k))).length=k:=by simp [u8s,hlk]
   have hvl:v.length=s.length:=by rw [hv];simp [u8s,ax];omega
   have hvk:k<v.length:=by omega
   have hvg:v.getD k .undef=.int .u8 c.toNat:=by rw [hv1];simp [List.getD_eq_getElem?_getD,List.getElem?_append_right,hl2]
   have hsucc:=De hlt
   rw [hc] at hsucc
   have hnew:u8s (ax (s.take (k+1))++s.drop (k+1))=u8s (ax (s.take k)) ++ .int .u8 (gb c).toNat::u8s (s.drop (k+1)):=by rw [hsucc];simp [u8s]
   have hspl:∀ x,v.take k++x::v.drop (k+1)=u8s (ax (s.take k))++x::u8s (s.drop (k+1)):=fun x=>by
     rw [hv1,List.take_left' hl2,List.drop_append,hl2,List.drop_eq_nil_of_le (by omega),show k+1 - k=1 by omega];rfl
   clear hv hd hlk hsucc
   replace hv1:=hid hv1
   replace hnew:=hid hnew
   replace hspl:=hid hspl
   have hc255:=c.toNat_lt
   by_cases hu:65≤c.toNat∧c.toNat≤90
   · have u1:(65:Int)≤(c.toNat:Int):=by omega
     have u2:(c.toNat:Int)≤90:=by omega
     have u3:=hid (Ht hu.1 hu.2)
     have u4:IntKind.u8.wrap ((c.toNat:Int)+32)=(c.toNat:Int)+32:=bd (by omega) (by omega)
     clear hu
     refine wk ?_
     refine an _ _ _ (by omega) (CutS (b:=by simp)) ⟨k+1,_,rfl,hlt,?_,rfl,rfl⟩
     rw [hnew.out,u3.out]
     exact hspl.out _
   · have u3:=hid (FB hu)
     have u5:(decide ((65:Int)≤(c.toNat:Int)) && decide ((c.toNat:Int)≤90))=false:=by simp;omega
     clear hu
     repeat' first
       | refine cc ?_
       | (first|refine bs (by kernel_rfl) ?_|refine aT (by kernel_rfl) ?_|refine aU ?_|refine dw ?_|refine bY (fun _=>?_)|refine aF ?_|refine bv ?_)
         refine sm ?_
       | (first|refine bo (by kernel_rfl) ?_|refine bt ?_|refine bu ?_|refine ce (aE ?_))
         refine sl ?_
       | exact bZ
       | first|apply b9|apply bp|apply ca|apply bq|apply cb|apply br
       | refine aX ?_
       | first|refine aV rfl ?_|refine aW rfl ?_|refine aA rfl ?_ ?_|refine ba rfl (fun _=>?_) (fun _=>?_)|refine a8 rfl (fun _=>?_) (fun _=>?_)
       | ((first|refine ay (fun _=>?_) (fun _=>?_)|refine aC (fun _=>?_) (fun _=>?_))<;>try refine sm ?_)
       | refine And.intro trivial ?_
       | refine And.intro (by omega) ?_
       | refine aY rfl (fun _=>?_) (fun _=>?_)
       | refine And.intro ?_ ?_
     all_goals first
       | omega
       | (refine an _ _ _ (by omega) (CutS (b := by simp)) ⟨k + 1, _, rfl, hlt, ?_, rfl, rfl⟩
          rw [hnew.out,u3.out]
          exact hv1.out)
 · have hke:k=s.length:=by omega
   subst hke
   have h1:¬ (s.length:Int)<(s.length:Int):=by omega
   have hv1:v=u8s (ax s):=by rw [hv];simp
   clear hv
   subst hv1
   have e1:=fT (ax s)
   have e2:=eY (ax s)
   have e4:(u8s (ax s)).length=s.length:=by simp [u8s,ax]
   have e5:(u8s (ax s)).take s.length=u8s (ax s):=by rw [← e4];exact List.take_length
   refine wk ?_
   exact aa rfl h.out
theorem yF {s:List UInt8} (hs:(s.length:Int)≤100000) {L:List Blk} {K:AV→List Blk→Prop} (h:K (.str (ax s)) L):ad Tryz.prog 70 [.str s] L K:=Fi (by omega) h
theorem uS {s:List UInt8} (hs:(s.length:Int)≤100000) {L:List Blk} {K:AV→List Blk→Prop} (h:K (.str (ax s)) L):ad Tryz.prog 64 [.str s] L K:=K1 (by omega) h
set_option maxHeartbeats 8000000
set_option maxRecDepth 100000
def fh (c:UInt8):Option Nat:=if 48≤c.toNat∧c.toNat≤57 then some (c.toNat - 48) else if 97≤c.toNat∧c.toNat≤102 then some (c.toNat - 87) else if 65≤c.toNat∧c.toNat≤70 then some (c.toNat - 55) else none
theorem vq {c:UInt8} {x:Nat} (h:fh c=some x):x<16:=by
 unfold fh at h
 split at h
 · cases h;omega
 · split at h
   · cases h;omega
   · split at h
     · cases h;omega
     · cases h
theorem Gz {c:UInt8} {L:List Blk} {K:AV→List Blk→Prop} (h:K (.tup [.int .u8 ((fh c).getD 0:Nat),.bool (fh c).isSome]) L):ad Tryz.prog 128 [.int .u8 c.toNat] L K:=by
 have hc:=c.toNat_lt
 obtain ⟨n,hn⟩:∃ n,c.toNat=n:=⟨_,rfl⟩
 unfold fh at h
 rw [hn] at h hc ⊢
 clear hn
 refine ac Cj (by simp [nz]) ?_
 simp only [nz,aj]
 by_cases h1:48≤n∧n≤57
 · rw [if_pos h1] at h
   replace h:=hid h
   obtain ⟨a1,a2⟩:=h1
   have b1:(48:Int)≤(n:Int):=by omega
   have b2:(n:Int)≤57:=by omega
   have b3:IntKind.u8.wrap ((n:Int) - 48)=(n:Int) - 48:=bd (by omega) (by omega)
   clear a1 a2
   refine wk ?_
   refine aq ?_
   have:=h.out
   simpa [show ((n - 48:Nat):Int)=(n:Int) - 48 by omega] using this
 · rw [if_neg h1] at h
   have c1:(decide ((48:Int)≤(n:Int)) && decide ((n:Int)≤57))=false:=by simp;omega
   by_cases h2:97≤n∧n≤102
   · rw [if_pos h2] at h
     replace h:=hid h
     obtain ⟨a1,a2⟩:=h2
     have b1:(97:Int)≤(n:Int):=by omega
     have b2:(n:Int)≤102:=by omega
     have b4:IntKind.u8.wrap ((n:Int) - 97)=(n:Int) - 97:=bd (by omega) (by omega)
     have b5:IntKind.u8.wrap ((n:Int) - 97+10)=(n:Int) - 97+10:=bd (by omega) (by omega)
     clear a1 a2 h1
     refine wk ?_
     refine aq ?_
     have:=h.out
     simpa [show ((n - 87:Nat):Int)=(n:Int) - 97+10 by omega] using this
   · rw [if_neg h2] at h
     have c2:(decide ((97:Int)≤(n:Int)) && decide ((n:Int)≤102))=false:=by simp;omega
     by_cases h3:65≤n∧n≤70
     · rw [if_pos h3] at h
       replace h:=hid h
       obtain ⟨a1,a2⟩:=h3
       have b1:(65:Int)≤(n:Int):=by omega
       have b2:(n:Int)≤70:=by omega
       have b4:IntKind.u8.wrap ((n:Int) - 65)=(n:Int) - 65:=bd (by omega) (by omega)
       have b5:IntKind.u8.wrap ((n:Int) - 65+10)=(n:Int) - 65+10:=bd (by omega) (by omega)
       clear a1 a2 h1 h2
       refine wk ?_
       refine aq ?_
       have:=h.out
       simpa [show ((n - 55:Nat):Int)=(n:Int) - 65+10 by omega] using this
     · rw [if_neg h3] at h
       have c3:(decide ((65:Int)≤(n:Int)) && decide ((n:Int)≤70))=false:=by simp;omega
       replace h:=hid h
       clear h1 h2 h3
       repeat' first
         | refine cc ?_
         | (first|refine bs (by kernel_rfl) ?_|refine aT (by kernel_rfl) ?_|refine aU ?_|refine dw ?_|refine bY (fun _=>?_)|refine aF ?_|refine bv ?_)
           refine sm ?_
         | (first|refine bo (by kernel_rfl) ?_|refine bt ?_|refine bu ?_|refine ce (aE ?_))
           refine sl ?_
         | exact bZ
         | first|apply b9|apply bp|apply ca|apply bq|apply cb|apply br
         | refine aX ?_
         | first|refine aV rfl ?_|refine aW rfl ?_|refine aA rfl ?_ ?_|refine ba rfl (fun _=>?_) (fun _=>?_)|refine a8 rfl (fun _=>?_) (fun _=>?_)
         | ((first|refine ay (fun _=>?_) (fun _=>?_)|refine aC (fun _=>?_) (fun _=>?_))<;>try refine sm ?_)
         | refine And.intro trivial ?_
         | refine And.intro (by omega) ?_
         | refine aY rfl (fun _=>?_) (fun _=>?_)
         | refine And.intro ?_ ?_
       all_goals first
         | omega
         | (refine aq ?_;simpa using h.out)
def Aq (a b:UInt8):Option UInt8:=match fh a,fh b with
 | some x,some y=>some (UInt8.ofNat (16 * x+y))
 | _,_=>none
def yc (a b:UInt8):AV:=match Aq a b with
 | some c=>.tup [.str [c],.bool true]
 | none=>.tup [.str [],.bool false]
theorem LD:∀ x y:_root_.Fin 16,IntKind.u8.wrap (((BitVec.ofInt IntKind.u8.bits (IntKind.u8.wrap ((x.val:Int) * 2 ^ min 4 IntKind.u8.bits)) ||| BitVec.ofInt IntKind.u8.bits (y.val:Int)).toNat:Nat):Int)=16 * (x.val:Int)+(y.val:Int):=by decide +kernel
theorem IV {a b:UInt8} {L:List Blk} {K:AV→List Blk→Prop} (h:K (yc a b) L):ad Tryz.prog 101 [.str [a,b]] L K:=by
 have hl:[a,b].length=2:=rfl
 have ha:[a,b].getD 0 0=a:=rfl
 have hb:[a,b].getD 1 0=b:=rfl
 have d1:IntKind.i64.wrap (Int.tdiv 2 2)=1:=by decide
 have d2:Int.tmod 2 2=0:=by decide
 have d3:cn [AV.int IntKind.u8 0] 1=[AV.int IntKind.u8 0]:=rfl
 have d4:IntKind.i64.wrap 1=1:=by decide
 have d5:IntKind.i64.wrap 2=2:=by decide
 replace h:=hid h
 refine ac A0 (by simp [j8]) ?_
 simp only [j8,aj]
 refine wk ?_
 refine ak (fun n T' L'=>(n=1∧T'=[(5,.int .i64 0),(4,.lsl L.length 0 0 (some 1) 1),(0,.str [a,b])]∧L'=L++[.cells [.int .u8 0]])∨(n=0∧∃ x y:Nat,Hid (fh a=some x)∧Hid (fh b=some y)∧T'=[(5,.int .i64 2),(4,.lsl (L.length+1) 0 1 none 1),(0,.str [a,b])]∧L'=L++[.dead,.cells [.int .u8 ((16 * x+y:Nat):Int)]])) (n0:=1) (T0:=[(5,.int .i64 0),(4,.lsl L.length 0 0 (some 1) 1),(0,.str [a,b])]) (L0:=L++[.cells [.int .u8 0]]) (CutS (b:=by simp)) (.inl ⟨rfl,rfl,rfl⟩) ?_
 rintro _ _ _ (⟨rfl,rfl,rfl⟩|⟨rfl,x,y,hx,hy,rfl,rfl⟩)
 · rcases hx:fh a with _|x
   · have h':=h.out
     simp only [yc,Aq,hx] at h'
     replace h':=hid h'
     have e1:(fh a).getD 0=0:=by rw [hx];rfl
     have e2:(fh a).isSome=false:=by rw [hx];rfl
     clear hx
     have kk1:=@hid _ @Gz
     refine wk ?_
     exact aa rfl h'.out
   · have e1:(fh a).getD 0=x:=by rw [hx];rfl
     have e2:(fh a).isSome=true:=by rw [hx];rfl
     have hx':=hid hx
     rcases hy:fh b with _|y
     · have h':=h.out
       simp only [yc,Aq,hx,hy] at h'
       replace h':=hid h'
       have e3:(fh b).getD 0=0:=by rw [hy];rfl
       have e4:(fh b).isSome=false:=by rw [hy];rfl
       clear hx hy
       have kk1:=@hid _ @Gz
       refine wk ?_
       exact aa rfl h'.out
     · have e3:(fh b).getD 0=y:=by rw [hy];rfl
       have e4:(fh b).isSome=true:=by rw [hy];rfl
       have hy':=hid hy
       have e5:=LD ⟨x,vq hx⟩ ⟨y,vq hy⟩
       simp only at e5
       clear hx hy
       have kk1:=@hid _ @Gz
       refine wk ?_
       refine an 0 _ _ (by omega) (CutL (b:=by simp)) (.inr ⟨rfl,x,y,hid rfl,hid rfl,rfl,?_⟩)
       first|rfl|rw [e5]
 · have h':=h.out
   simp only [yc,Aq,hx.out,hy.out] at h'
   replace h':=hid h'
   have lx:=vq hx.out
   have ly:=vq hy.out
   have u1:C6 (.int .u8 (16 * (x:Int)+(y:Int)))=true:=rfl
   have u2:jW (.int .u8 (16 * (x:Int)+(y:Int)))=UInt8.ofNat (16 * x+y):=by
     simp only [jW]
     rw [show (16 * (x:Int)+(y:Int)).toNat=16 * x+y by omega]
   refine wk ?_
   exact aa rfl h'.out
set_option maxHeartbeats 8000000
set_option maxRecDepth 100000
def JR (b:List UInt8):Bool:=b.isEmpty || b.getLast? == some 32
def eI (b:List UInt8) (c:UInt8):List UInt8:=if c=32∧JR b=true then b else b++[c]
def uM (s:List UInt8):List UInt8:=s.foldl eI []
def Fb (b:List UInt8):List UInt8:=if b.getLast?=some 32 then b.dropLast else b
def fa (s:List UInt8):List UInt8:=Fb (uM (ax s))
theorem Aj (b:List UInt8) (c:UInt8):(eI b c).length≤b.length+1:=by
 unfold eI;split<;>simp
theorem CQ {s:List UInt8} {k:Nat} (h:k<s.length):uM (s.take (k+1))=eI (uM (s.take k)) (s.getD k 0):=by
 rw [List.take_succ_eq_append_getElem h,uM,List.foldl_append]
 simp [uM,h]
theorem vn (s:List UInt8):∀ k,(uM (s.take k)).length≤k
 | 0=>by simp [uM]
 | k+1=>by
   have ih:=vn s k
   by_cases h:k<s.length
   · rw [CQ h]
     have:=Aj (uM (s.take k)) (s.getD k 0)
     omega
   · rw [List.take_of_length_le (by omega),← List.take_of_length_le (l:=s) (i:=k) (by omega)];omega
theorem CP {s:List UInt8} (hs:(s.length:Int)≤100000) {L:List Blk} {K:AV→List Blk→Prop} (h:K (.str (fa s)) L):ad Tryz.prog 65 [.str s] L K:=by
 replace h:=hid h
 refine ac Ck (by simp [nA]) ?_
 simp only [nA,aj]
 obtain ⟨t,ht⟩:∃ t,ax s=t:=⟨_,rfl⟩
 have htl:(t.length:Int)≤100000:=by rw [← ht];simpa [ax] using hs
 have kk1:=@hid _ (fun L K=>uS hs (L:=L) (K:=K))
 refine wk ?_
 refine cj (l:=[]) (n:=0) 3 1 rfl (Nat.zero_mul 1).symm ?_
 refine ak (fun n T' L'=>∃ (k:Nat) (b:List UInt8) (v:List AV) (m:Nat),n=t.length - k∧k≤t.length∧b=uM (t.take k)∧v=u8s b∧m=b.length∧T'=[(10,.int .i64 (k:Int)),(9,.int .i64 t.length),(8,.sl (u8s t) t.length none),(3,.gsl v m L.length 1),(2,.str [])]∧L'=L++[.spare m 1]) (CutS (b:=by simp)) ⟨0,[],[],0,rfl,Nat.zero_le _,rfl,rfl,rfl,rfl,rfl⟩ ?_
 rintro _ _ _ ⟨k,b,v,m,rfl,hk,hb,rfl,rfl,rfl,rfl⟩
 replace hb:=hid hb
 by_cases hlt:k<t.length
 · have h1:(k:Int)<(t.length:Int):=by omega
   have h2:IntKind.i64.wrap ((k:Int)+1)=(k:Int)+1:=ab (by omega) (by omega)
   have hsucc:=hid (CQ hlt)
   obtain ⟨c,hc⟩:∃ c,t.getD k 0=c:=⟨_,rfl⟩
   have hg:(u8s t).getD k .undef=.int .u8 c.toNat:=by simp [u8s,hlt,← hc]
   have hlk:k<(u8s t).length:=by simpa [u8s] using hlt
   rw [hc] at hsucc
   have hbl:b.length≤k:=by rw [hb.out];exact vn t k
   have hstep:∀ b',b'=eI b c→b'=uM (t.take (k+1)):=fun b' e=>by rw [hsucc.out,← hb.out];exact e
   have c32:((c.toNat:Int)=32)↔c=32:=⟨fun e=>UInt8.toNat_inj.1 (by have:(32:UInt8).toNat=32:=rfl;omega),fun e=>by rw [e];rfl⟩
   replace hstep:=hid hstep
   replace c32:=hid c32
   clear hsucc hb hc
   have hub:(u8s b).length=b.length:=by simp [u8s]
   have rest:∀ b',b'=eI b c→b'.length≤b.length+1:=fun b' e=>by rw [e];exact Aj b c
   clear rest
   by_cases hc:(c.toNat:Int)=32
   · rcases List.eq_nil_or_concat b with hb0|⟨d,x,hb0⟩
     · have e0:(b.length:Int)=0:=by rw [hb0];rfl
       have e1:=hid (hstep.out b (by rw [eI,if_pos ⟨c32.out.1 hc,by rw [hb0];rfl⟩]))
       clear hb0
       refine wk ?_
       exact an _ _ _ (by omega) (CutS (b:=by simp)) ⟨k+1,b,_,_,rfl,hlt,e1.out,rfl,rfl,rfl,rfl⟩
     · have e0:¬ (b.length:Int)=0:=by rw [hb0];simp;omega
       have e1:IntKind.i64.wrap ((b.length:Int) - 1)=(d.length:Int):=by rw [ab (by omega) (by omega),hb0];simp
       have e2:(u8s b).getD d.length .undef=.int .u8 x.toNat:=by rw [hb0];simp [u8s,List.getD_eq_getElem?_getD]
       have e3:d.length<(u8s b).length:=by rw [hb0];simp [u8s]
       have e4:(d.length:Int)<(b.length:Int):=by rw [hb0];simp;omega
       have x32:x=32↔(x.toNat:Int)=32:=⟨fun e=>by rw [e];rfl,fun e=>UInt8.toNat_inj.1 (by have:(32:UInt8).toNat=32:=rfl;omega)⟩
       have hend:JR b=true↔x=32:=by rw [hb0];simp [JR]
       replace hb0:=hid hb0
       replace x32:=hid x32
       replace hend:=hid hend
       by_cases hx:(x.toNat:Int)=32
       · have e5:=hid (hstep.out b (by rw [eI,if_pos ⟨c32.out.1 hc,hend.out.2 (x32.out.2 hx)⟩]))
         refine wk ?_
         exact an _ _ _ (by omega) (CutS (b:=by simp)) ⟨k+1,b,_,_,rfl,hlt,e5.out,rfl,rfl,rfl,rfl⟩
       · have e5:=hid (hstep.out (b++[c]) (by rw [eI,if_neg fun e=>hx (x32.out.1 (hend.out.1 e.2))]))
         refine wk ?_
         exact an _ _ _ (by omega) (CutS (b:=by simp)) ⟨k+1,b++[c],_,_,rfl,hlt,e5.out,(by rw [Cn,hc]),(by simp),rfl,rfl⟩
   · have e1:=hid (hstep.out (b++[c]) (by rw [eI,if_neg fun e=>hc (c32.out.2 e.1)]))
     refine wk ?_
     exact an _ _ _ (by omega) (CutS (b:=by simp)) ⟨k+1,b++[c],_,_,rfl,hlt,e1.out,(Cn b c).symm,(by simp),rfl,rfl⟩
 · have hke:k=t.length:=by omega
   subst hke
   have h1:¬ (t.length:Int)<(t.length:Int):=by omega
   have hbl:b.length≤t.length:=by rw [hb.out];exact vn t _
   have hub:(u8s b).length=b.length:=by simp [u8s]
   have hfin:Fb b=fa s:=by rw [fa,ht,hb.out,List.take_length]
   have e1:=fT b
   have e2:=eY b
   replace hb:=hid hfin
   clear hfin
   rcases List.eq_nil_or_concat b with hb0|⟨d,x,hb0⟩
   · have e0:¬ (0:Int)<(b.length:Int):=by rw [hb0];simp
     have e3:=hid (show b=fa s by rw [← hb.out,hb0];rfl)
     clear hb0
     refine wk ?_
     refine aa rfl ?_
     rw [e3.out];exact h.out
   · have e0:(0:Int)<(b.length:Int):=by rw [hb0];simp;try omega
     have e3:IntKind.i64.wrap ((b.length:Int) - 1)=(d.length:Int):=by rw [ab (by omega) (by omega),hb0];simp
     have e4:(u8s b).getD d.length .undef=.int .u8 x.toNat:=by rw [hb0];simp [u8s,List.getD_eq_getElem?_getD]
     have e5:d.length<(u8s b).length:=by rw [hb0];simp [u8s]
     have e6:(d.length:Int)<(b.length:Int):=by rw [hb0];simp;omega
     have e7:(u8s b).take d.length=u8s d:=by rw [hb0];simp [u8s]
     have e10:(u8s d).length=d.length:=by simp [u8s]
     have e8:=fT d
     have e9:=eY d
     have x32:x=32↔(x.toNat:Int)=32:=⟨fun e=>by rw [e];rfl,fun e=>UInt8.toNat_inj.1 (by have:(32:UInt8).toNat=32:=rfl;omega)⟩
     have htr:Fb b=if x=32 then d else b:=by rw [hb0];simp [Fb]
     replace hb0:=hid hb0
     replace htr:=hid htr
     by_cases hx:(x.toNat:Int)=32
     · have r:=hid (show d=fa s by rw [← hb.out,htr.out,if_pos (x32.2 hx)])
       replace x32:=hid x32
       refine wk ?_
       refine aa rfl ?_
       rw [r.out];exact h.out
     · have r:=hid (show b=fa s by rw [← hb.out,htr.out,if_neg fun e=>hx (x32.1 e)])
       replace x32:=hid x32
       refine wk ?_
       refine aa rfl ?_
       rw [r.out];exact h.out
end Go.Proofs.YtgpnbkdcdmfgcaaGreat.Av
