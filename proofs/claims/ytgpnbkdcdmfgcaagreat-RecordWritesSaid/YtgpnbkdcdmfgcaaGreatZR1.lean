/- Joined texts of the walk, made small by a program. -/
import Derived.Test.YtgpnbkdcdmfgcaaGreatZP4
import Derived.Test.YtgpnbkdcdmfgcaaGreatRows
import Derived.KernelRfl
import Derived.Test.YtgpnbkdcdmfgcaaGreatZD1
import Derived.Test.YtgpnbkdcdmfgcaaGreatZP5
set_option linter.unusedSimpArgs false
set_option linter.unusedVariables false
set_option maxRecDepth 100000
namespace Go.Proofs.YtgpnbkdcdmfgcaaGreat.Av
open Go
def pz:List SOp :=
 [o1 2 (.mv (.av (.bool false)))]
def py:List SOp :=
 [o1 6 (.mv (tm 0)),
 o1 7 (.call 70 [(tm 6)]),
 o1 3 (.mv (tm 7))]
def px:List SOp :=
 [o1 8 (.mv (tm 3)),
 o1 9 (.len true (tm 8)),
 o1 10 (.bin .geq (tm 9) (iv 1)),
 o1 11 (.mv (tm 10)),
 .grp none 11 true
 [og 12 11 true (.mv (tm 3)),
 og 13 11 true (.len true (tm 12)),
 og 14 11 true (.bin .leq (tm 13) (iv 32))]
 15 (tm 14),
 o1 4 (.mv (tm 15))]
def pw:List SOp :=
 [o1 5 (.mv (iv 0))]
def pu:List SOp :=
 [o1 16 (.mv (tm 5)),
 o1 17 (.mv (tm 3)),
 o1 18 (.len true (tm 17)),
 o1 19 (.bin .lss (tm 16) (tm 18)),
 o1 20 (.mv (tm 19)),
 .grp none 20 true
 [og 21 20 true (.mv (tm 4))]
 22 (tm 21)]
def pt:List SOp :=
 [o1 25 (.mv (tm 3)),
 o1 26 (.mv (tm 5)),
 o1 27 (.idxS (tm 25) (tm 26)),
 o1 28 (.call 71 [(tm 27),(.av (.str [97,98,99,100,101,102,103,104,105,106,107,108,109,110,111,112,113,114,115,116,117,118,119,120,121,122]))]),
 o1 29 (.mv (tm 28)),
 .grp none 29 false
 [og 30 29 false (.mv (tm 5)),
 og 31 29 false (.bin .gtr (tm 30) (iv 0)),
 og 32 29 false (.mv (tm 31)),
 .grp (some (29,false)) 32 true
 [og 33 32 true (.mv (tm 3)),
 og 34 32 true (.mv (tm 5)),
 og 35 32 true (.idxS (tm 33) (tm 34)),
 og 36 32 true (.call 71 [(tm 35),(.av (.str [48,49,50,51,52,53,54,55,56,57,45]))])]
 37 (tm 36)]
 38 (tm 37),
 o1 4 (.mv (tm 38))]
def pr:List SOp :=
 [o1 23 (.mv (tm 5)),
 o1 24 (.bin .add (tm 23) (iv 1)),
 o1 5 (.mv (tm 24))]
def pq:List SOp :=
 [o1 39 (.mv (tm 4)),
 o1 2 (.mv (tm 39))]
def lr:aJ:=⟨40,(.seq (.sreg pz [])
 (.seq (.sreg py [true,false,false])
 (.seq (.sreg px [true,false,false,false,false,false])
 (.seq (.seq (.sreg pw [])
 (.block 0 (.loop (.seq (.seq (.sreg pu [true,false,false,false,false,false])
 (.cond (tm 22) .skip
 (.exit 0)))
 (.seq (.block 1 (.sreg pt [true,false,false,false,false,false,false]))
 (.sreg pr [true,false,false]))))))
 (.seq (.sreg pq [true,false])
 .ret))))),[(.tmp 2)]⟩
attribute [push_cast] pz py px pw pu pt pr pq
theorem y5:aN Tryz.prog (fun _ _=>1) 45=some lr.raw:=by kernel_rfl
def vW:List SOp :=
 [o1 4 (.mv (.av (.bool false)))]
def vV:List SOp :=
 [o1 5 (.mv (iv 0))]
def vU:List SOp :=
 [o1 6 (.mv (tm 5)),
 o1 7 (.mv (tm 1)),
 o1 8 (.len true (tm 7)),
 o1 9 (.bin .lss (tm 6) (tm 8))]
def vT:List SOp :=
 [o1 12 (.mv (tm 1)),
 o1 13 (.mv (tm 5)),
 o1 14 (.idxS (tm 12) (tm 13)),
 o1 15 (.mv (tm 0)),
 o1 16 (.bin .eql (tm 14) (tm 15))]
def vS:List SOp :=
 [o1 4 (.mv (.av (.bool true)))]
def vR:List SOp :=
 [o1 10 (.mv (tm 5)),
 o1 11 (.bin .add (tm 10) (iv 1)),
 o1 5 (.mv (tm 11))]
def vQ:List SOp :=
 [o1 4 (.mv (.av (.bool false)))]
def uS:aJ:=⟨17,(.seq (.sreg vW [])
 (.seq (.seq (.sreg vV [])
 (.block 0 (.loop (.seq (.seq (.sreg vU [true,false,false,false])
 (.cond (tm 9) .skip
 (.exit 0)))
 (.seq (.block 1 (.seq (.sreg vT [true,false,false,false,false])
 (.cond (tm 16) (.seq (.sreg vS [])
 .ret)
 .skip)))
 (.sreg vR [true,false,false]))))))
 (.seq (.sreg vQ [])
 .ret))),[(.tmp 4)]⟩
attribute [push_cast] vW vV vU vT vS vR vQ
theorem AL:aN Tryz.prog (fun _ _=>1) 71=some uS.raw:=by kernel_rfl
def sE:List SOp :=
 [o1 4 (.mv (.av (.bool false)))]
def sD:List SOp :=
 [o1 7 (.mv (tm 0)),
 o1 8 (.len false (tm 7)),
 o1 9 (.mv (iv 0))]
def sC:List SOp :=
 [o1 10 (.bin .lss (tm 9) (tm 8))]
def sB:List SOp :=
 [o1 11 (.iaddr 2 (tm 7) (tm 9)),
 o1 12 (.load true 2 (tm 11)),
 o1 6 (.alloc [(.str []),(.str [])]),
 o0 (.store 2 (tm 6) (tm 12))]
def sA:List SOp :=
 [o1 13 (.faddr 0 (tm 6)),
 o1 14 (.load false 1 (tm 13)),
 o1 15 (.call 70 [(tm 14)]),
 o1 16 (.mv (tm 1)),
 o1 17 (.call 70 [(tm 16)]),
 o1 18 (.bin .eql (tm 15) (tm 17))]
def sy:List SOp :=
 [o1 4 (.mv (.av (.bool true)))]
def sx:List SOp :=
 [o1 19 (.bin .add (tm 9) (iv 1)),
 o1 9 (.mv (tm 19))]
def sw:List SOp :=
 [o1 4 (.mv (.av (.bool false)))]
def rp:aJ:=⟨20,(.seq (.sreg sE [])
 (.seq (.seq (.sreg sD [])
 (.block 0 (.loop (.seq (.sreg sC [])
 (.seq (.cond (tm 10) .skip
 (.exit 0))
 (.seq (.block 1 (.seq (.sreg sB [true,false,false])
 (.seq (.sreg sA [true,false,false,false,false,false])
 (.cond (tm 18) (.seq (.sreg sy [])
 .ret)
 .skip))))
 (.sreg sx [true,false])))))))
 (.seq (.sreg sw [])
 .ret))),[(.tmp 4)]⟩
attribute [push_cast] sE sD sC sB sA sy sx sw
theorem An:aN Tryz.prog (fun _ _=>1) 46=some rp.raw:=by kernel_rfl
def ib:List SOp :=
 [o1 2 (.mv (.av (.str [])))]
def ia:List SOp :=
 [o1 3 (.mv (.av (.sl [] 0 (some 0))))]
def hZ:List SOp :=
 [o1 4 (.mv (iv 0))]
def hY:List SOp :=
 [o1 6 (.mv (tm 4)),
 o1 7 (.mv (tm 0)),
 o1 8 (.len true (tm 7)),
 o1 9 (.bin .lss (tm 6) (tm 8))]
def hG:List SOp :=
 [o1 12 (.mv (tm 0)),
 o1 13 (.mv (tm 4)),
 o1 14 (.idxS (tm 12) (tm 13)),
 o1 5 (.mv (tm 14))]
def gZ:List SOp :=
 [o1 15 (.mv (tm 5)),
 o1 16 (.bin .eql (tm 15) (.av (.int .u8 0)))]
def gY:List SOp :=
 [o1 17 (.mv (tm 3)),
 o1 18 (.app 1 1 1 [(.int .u8 0)] (tm 17) (.av (.str [92,48,48]))),
 o1 3 (.mv (tm 18))]
def gX:List SOp :=
 [o1 19 (.mv (tm 5)),
 o1 20 (.call 71 [(tm 19),(.av (.str [34,43,44,59,60,62,92]))]),
 o1 21 (.mv (tm 20)),
 .grp none 21 false
 [og 22 21 false (.mv (tm 4)),
 og 23 21 false (.bin .eql (tm 22) (iv 0)),
 og 24 21 false (.mv (tm 23)),
 .grp (some (21,false)) 24 true
 [og 25 24 true (.mv (tm 5)),
 og 26 24 true (.call 71 [(tm 25),(.av (.str [32,35]))])]
 27 (tm 26)]
 28 (tm 27),
 o1 29 (.mv (tm 28)),
 .grp none 29 false
 [og 30 29 false (.mv (tm 4)),
 og 31 29 false (.bin .add (tm 30) (iv 1)),
 og 32 29 false (.mv (tm 0)),
 og 33 29 false (.len true (tm 32)),
 og 34 29 false (.bin .eql (tm 31) (tm 33)),
 og 35 29 false (.mv (tm 34)),
 .grp (some (29,false)) 35 true
 [og 36 35 true (.mv (tm 5)),
 og 37 35 true (.bin .eql (tm 36) (.av (.int .u8 32)))]
 38 (tm 37)]
 39 (tm 38)]
def gW:List SOp :=
 [o1 40 (.mv (tm 3)),
 o1 41 (.bslice false 1 1 [(.int .u8 0)] [(0,(1,(.av (.int .u8 92))))]),
 o1 42 (.app 1 1 1 [(.int .u8 0)] (tm 40) (tm 41)),
 o1 3 (.mv (tm 42))]
def gV:List SOp :=
 [o1 43 (.mv (tm 3)),
 o1 44 (.mv (tm 5)),
 o1 45 (.bslice false 1 1 [(.int .u8 0)] [(0,(1,(tm 44)))]),
 o1 46 (.app 1 1 1 [(.int .u8 0)] (tm 43) (tm 45)),
 o1 3 (.mv (tm 46))]
def fT:List SOp :=
 [o1 10 (.mv (tm 4)),
 o1 11 (.bin .add (tm 10) (iv 1)),
 o1 4 (.mv (tm 11))]
def fS:List SOp :=
 [o1 47 (.mv (tm 3)),
 o1 48 (.b2s (tm 47)),
 o1 2 (.mv (tm 48))]
def eN:aJ:=⟨49,(.seq (.sreg ib [])
 (.seq (.sreg ia [])
 (.seq (.seq (.sreg hZ [])
 (.block 0 (.loop (.seq (.seq (.sreg hY [true,false,false,false])
 (.cond (tm 9) .skip
 (.exit 0)))
 (.seq (.block 1 (.seq (.sreg hG [true,false,false,false])
 (.seq (.seq (.sreg gZ [true,false])
 (.cond (tm 16) (.seq (.sreg gY [true,false,false])
 (.exit 1))
 .skip))
 (.seq (.seq (.sreg gX [true,false,false,false,false,false])
 (.cond (tm 39) (.sreg gW [true,false,false,false])
 .skip))
 (.sreg gV [true,false,false,false,false])))))
 (.sreg fT [true,false,false]))))))
 (.seq (.sreg fS [true,false,false])
 .ret)))),[(.tmp 2)]⟩
attribute [push_cast] ib ia hZ hY hG gZ gY gX gW gV fT fS
theorem uR:aN Tryz.prog (fun _ _=>1) 72=some eN.raw:=by kernel_rfl
def pp:List SOp :=
 [o1 2 (.mv (.av (.str [])))]
def po:List SOp :=
 [o1 3 (.mv (.av (.str [])))]
def pn:List SOp :=
 [o1 8 (.mv (tm 0)),
 o1 9 (.len false (tm 8)),
 o1 10 (.mv (iv 0))]
def pm:List SOp :=
 [o1 11 (.bin .lss (tm 10) (tm 9))]
def pl:List SOp :=
 [o1 12 (.mv (tm 10)),
 o1 13 (.iaddr 1 (tm 8) (tm 10)),
 o1 14 (.load false 1 (tm 13)),
 o1 4 (.mv (tm 12)),
 o1 5 (.mv (tm 14))]
def pk:List SOp :=
 [o1 15 (.mv (tm 4)),
 o1 16 (.bin .gtr (tm 15) (iv 0))]
def pj:List SOp :=
 [o1 17 (.mv (tm 3)),
 o1 18 (.bin .add (tm 17) (.av (.str [44]))),
 o1 3 (.mv (tm 18))]
def pi:List SOp :=
 [o1 19 (.mv (tm 5)),
 o1 20 (.len false (tm 19)),
 o1 21 (.mv (iv 0))]
def ph:List SOp :=
 [o1 22 (.bin .lss (tm 21) (tm 20))]
def pg:List SOp :=
 [o1 23 (.mv (tm 21)),
 o1 24 (.iaddr 2 (tm 19) (tm 21)),
 o1 25 (.load true 2 (tm 24)),
 o1 7 (.alloc [(.str []),(.str [])]),
 o1 6 (.mv (tm 23)),
 o0 (.store 2 (tm 7) (tm 25))]
def mg:List SOp :=
 [o1 26 (.mv (tm 6)),
 o1 27 (.bin .gtr (tm 26) (iv 0))]
def mf:List SOp :=
 [o1 28 (.mv (tm 3)),
 o1 29 (.bin .add (tm 28) (.av (.str [43]))),
 o1 3 (.mv (tm 29))]
def me:List SOp :=
 [o1 30 (.mv (tm 3)),
 o1 31 (.faddr 0 (tm 7)),
 o1 32 (.load false 1 (tm 31)),
 o1 33 (.bin .add (tm 30) (tm 32)),
 o1 34 (.bin .add (tm 33) (.av (.str [61]))),
 o1 35 (.faddr 1 (tm 7)),
 o1 36 (.load false 1 (tm 35)),
 o1 37 (.call 72 [(tm 36)]),
 o1 38 (.bin .add (tm 34) (tm 37)),
 o1 3 (.mv (tm 38))]
def md:List SOp :=
 [o1 39 (.bin .add (tm 21) (iv 1)),
 o1 21 (.mv (tm 39))]
def mc:List SOp :=
 [o1 40 (.bin .add (tm 10) (iv 1)),
 o1 10 (.mv (tm 40))]
def mb:List SOp :=
 [o1 41 (.mv (tm 3)),
 o1 2 (.mv (tm 41))]
def lq:aJ:=⟨42,(.seq (.sreg pp [])
 (.seq (.sreg po [])
 (.seq (.seq (.sreg pn [])
 (.block 0 (.loop (.seq (.sreg pm [])
 (.seq (.cond (tm 11) .skip
 (.exit 0))
 (.seq (.block 1 (.seq (.sreg pl [true,true,false,false,false])
 (.seq (.seq (.sreg pk [true,false])
 (.cond (tm 16) (.sreg pj [true,false,false])
 .skip))
 (.seq (.sreg pi [])
 (.block 2 (.loop (.seq (.sreg ph [])
 (.seq (.cond (tm 22) .skip
 (.exit 2))
 (.seq (.block 3 (.seq (.sreg pg [true,true,false,false,false])
 (.seq (.seq (.sreg mg [true,false])
 (.cond (tm 27) (.sreg mf [true,false,false])
 .skip))
 (.sdreg me [.pure,.pure,(.read 0 0),.pure,.pure,.pure,(.read 0 0),(.read 0 0)] [true,false,false,false,false,false,false,false,false,false]))))
 (.sreg md [true,false]))))))))))
 (.sreg mc [true,false])))))))
 (.seq (.sreg mb [true,false])
 .ret)))),[(.tmp 2)]⟩
attribute [push_cast] pp po pn pm pl pk pj pi ph pg mg mf me md mc mb
theorem yZ:aN Tryz.prog (fun _ _=>1) 47=some lq.raw:=by kernel_rfl
def mz:List SOp :=
 [o1 2 (.mv (.av (.str []))),
 o1 3 (.mv (iv 0))]
def my:List SOp :=
 [o1 4 (.mv (iv 0))]
def mw:List SOp :=
 [o1 9 (.mv (tm 0)),
 o1 10 (.len false (tm 9)),
 o1 11 (.mv (iv 0))]
def mu:List SOp :=
 [o1 12 (.bin .lss (tm 11) (tm 10))]
def mt:List SOp :=
 [o1 13 (.mv (tm 11)),
 o1 14 (.iaddr 1 (tm 9) (tm 11)),
 o1 15 (.load false 1 (tm 14)),
 o1 5 (.mv (tm 13)),
 o1 6 (.mv (tm 15))]
def ms:List SOp :=
 [o1 16 (.mv (tm 5)),
 o1 17 (.bin .eql (tm 16) (iv 32))]
def mr:List SOp :=
 [o1 2 (.mv (.av (.str []))),
 o1 3 (.mv (iv 9))]
def mq:List SOp :=
 [o1 18 (.mv (tm 6)),
 o1 19 (.len false (tm 18)),
 o1 20 (.bin .eql (tm 19) (iv 0))]
def mp:List SOp :=
 [o1 2 (.mv (.av (.str []))),
 o1 3 (.mv (iv 2))]
def mo:List SOp :=
 [o1 21 (.mv (tm 6)),
 o1 22 (.len false (tm 21)),
 o1 23 (.mv (iv 0))]
def jH:List SOp :=
 [o1 24 (.bin .lss (tm 23) (tm 22))]
def jG:List SOp :=
 [o1 25 (.mv (tm 23)),
 o1 26 (.iaddr 2 (tm 21) (tm 23)),
 o1 27 (.load true 2 (tm 26)),
 o1 8 (.alloc [(.str []),(.str [])]),
 o1 7 (.mv (tm 25)),
 o0 (.store 2 (tm 8) (tm 27))]
def jF:List SOp :=
 [o1 28 (.mv (tm 7)),
 o1 29 (.bin .eql (tm 28) (iv 8))]
def jE:List SOp :=
 [o1 2 (.mv (.av (.str []))),
 o1 3 (.mv (iv 9))]
def jD:List SOp :=
 [o1 30 (.faddr 0 (tm 8)),
 o1 31 (.load false 1 (tm 30)),
 o1 32 (.call 45 [(tm 31)]),
 o1 33 (.un .not (tm 32))]
def jC:List SOp :=
 [o1 2 (.mv (.av (.str []))),
 o1 3 (.mv (iv 20))]
def jB:List SOp :=
 [o1 34 (.mv (tm 6)),
 o1 35 (.mv (tm 7)),
 o1 36 (.slV 2 (tm 34) none (some (tm 35)) none),
 o1 37 (.faddr 0 (tm 8)),
 o1 38 (.load false 1 (tm 37)),
 o1 39 (.call 46 [(tm 36),(tm 38)])]
def jA:List SOp :=
 [o1 2 (.mv (.av (.str []))),
 o1 3 (.mv (iv 21))]
def jz:List SOp :=
 [o1 40 (.mv (tm 4)),
 o1 41 (.faddr 1 (tm 8)),
 o1 42 (.load false 1 (tm 41)),
 o1 43 (.len true (tm 42)),
 o1 44 (.minmax false [(tm 43),(iv 5000)]),
 o1 45 (.bin .add (tm 40) (tm 44)),
 o1 4 (.mv (tm 45))]
def jy:List SOp :=
 [o1 46 (.bin .add (tm 23) (iv 1)),
 o1 23 (.mv (tm 46))]
def jx:List SOp :=
 [o1 47 (.bin .add (tm 11) (iv 1)),
 o1 11 (.mv (tm 47))]
def jw:List SOp :=
 [o1 48 (.mv (tm 4)),
 o1 49 (.bin .gtr (tm 48) (iv 4096)),
 o1 50 (.mv (tm 49)),
 .grp none 50 false
 [og 51 50 false (.mv (tm 0)),
 og 52 50 false (.call 47 [(tm 51)]),
 og 53 50 false (.len true (tm 52)),
 og 54 50 false (.bin .gtr (tm 53) (iv 4096))]
 55 (tm 54)]
def jv:List SOp :=
 [o1 2 (.mv (.av (.str []))),
 o1 3 (.mv (iv 5))]
def ju:List SOp :=
 [o1 56 (.mv (tm 0)),
 o1 57 (.call 47 [(tm 56)]),
 o1 2 (.mv (tm 57)),
 o1 3 (.mv (iv 0))]
def iN:aJ:=⟨58,(.seq (.sreg mz [])
 (.seq (.sreg my [])
 (.seq (.seq (.sreg mw [])
 (.block 0 (.loop (.seq (.sreg mu [])
 (.seq (.cond (tm 12) .skip
 (.exit 0))
 (.seq (.block 1 (.seq (.sreg mt [true,true,false,false,false])
 (.seq (.seq (.sreg ms [true,false])
 (.cond (tm 17) (.seq (.sreg mr [])
 .ret)
 .skip))
 (.seq (.seq (.sreg mq [true,false,false])
 (.cond (tm 20) (.seq (.sreg mp [])
 .ret)
 .skip))
 (.seq (.sreg mo [])
 (.block 2 (.loop (.seq (.sreg jH [])
 (.seq (.cond (tm 24) .skip
 (.exit 2))
 (.seq (.block 3 (.seq (.sreg jG [true,true,false,false,false])
 (.seq (.seq (.sreg jF [true,false])
 (.cond (tm 29) (.seq (.sreg jE [])
 .ret)
 .skip))
 (.seq (.seq (.sreg jD [true,false,false,false])
 (.cond (tm 33) (.seq (.sreg jC [])
 .ret)
 .skip))
 (.seq (.seq (.sdreg jB [.pure,.pure,(.read 0 0),.pure,(.read 0 0)] [true,false,false,false,false,false])
 (.cond (tm 39) (.seq (.sreg jA [])
 .ret)
 .skip))
 (.sreg jz [true,false,false,false,false,false,false]))))))
 (.sreg jy [true,false])))))))))))
 (.sreg jx [true,false])))))))
 (.seq (.seq (.sreg jw [true,false,false,false])
 (.cond (tm 55) (.seq (.sreg jv [])
 .ret)
 .skip))
 (.seq (.sreg ju [true,true,false,false])
 .ret))))),[(.tmp 2),(.tmp 3)]⟩
attribute [push_cast] mz my mw mu mt ms mr mq mp mo jH jG jF jE jD jC jB jA jz jy jx jw jv ju
theorem xB:aN Tryz.prog (fun _ _=>1) 27=some iN.raw:=by kernel_rfl
set_option maxHeartbeats 8000000
set_option maxRecDepth 100000
theorem A5 {l:List UInt8} {x:UInt8} (hn:l.length≤1000000) {L:List Blk} {K:AV→List Blk→Prop} (h:K (.bool (l.contains x)) L) :
   ab Tryz.prog 71 [.int .u8 x.toNat,.str l] L K:=by
 replace h:=hid h
 refine af AL (by simp [uS]) ?_
 simp only [uS,an]
 refine wk ?_
 refine ai (fun n T' L'=>∃ (i:Nat),n=l.length - i∧i≤l.length∧Hid (∀ j,j<i→l.getD j 0≠x)∧T'=[(5,.int .i64 (i:Int)),(0,.int .u8 x.toNat),(1,.str l)]∧L=L') (CutS (b:=Nat.le_refl _)) ⟨0,rfl,Nat.zero_le _,hid (by simp),rfl,rfl⟩ ?_
 rintro _ _ _ ⟨i,rfl,hi,hno,rfl,rfl⟩
 by_cases hlt:i<l.length
 · have h1:(i:Int)<(l.length:Int):=by omega
   have h2:IntKind.i64.wrap ((i:Int)+1)=(i:Int)+1:=ae (by omega) (by omega)
   obtain ⟨p,hp⟩:∃ p,l.getD i 0=p:=⟨_,rfl⟩
   by_cases hpq:p=x
   · have hc:l.contains x=true:=by
       rw [List.contains_iff_mem,← hpq,← hp,List.getD_eq_getElem?_getD,List.getElem?_eq_getElem hlt]
       exact List.getElem_mem _
     have h':=h.out
     rw [hc] at h'
     replace h':=hid h'
     clear hc
     subst hpq
     refine wk ?_
     exact ap h'.out
   · have k1:¬ (p.toNat:Int)=(x.toNat:Int):=fun e=>hpq ((bh p x).1 e)
     have hp':=hid hp
     refine wk ?_
     refine ao _ _ _ (by omega) (CutS (b:=Nat.le_refl _)) ⟨i+1,rfl,hlt,hid fun j hj=>?_,rfl,rfl⟩
     rcases Nat.lt_or_ge j i with e|e
     · exact hno.out j e
     · have:j=i:=by omega
       subst this
       rw [hp];exact hpq
 · have hke:i=l.length:=by omega
   subst hke
   have h1:¬ (l.length:Int)<(l.length:Int):=by omega
   have hc:l.contains x=false:=by
     rw [← Bool.not_eq_true,List.contains_iff_mem]
     intro hm
     obtain ⟨j,hj,e⟩:=List.mem_iff_getElem.1 hm
     exact hno.out j hj (by simp [hj,e])
   have h':=h.out
   rw [hc] at h'
   replace h':=hid h'
   clear hc
   refine wk ?_
   exact ap h'.out
abbrev eG:List UInt8:=[97,98,99,100,101,102,103,104,105,106,107,108,109,110,111,112,113,114,115,116,117,118,119,120,121,122]
abbrev Bl:List UInt8:=[48,49,50,51,52,53,54,55,56,57,45]
theorem HC:∀ n:_root_.Fin 256,eG.contains (gl (UInt8.ofNat n.val))=iG (n.val:Int)∧(eG.contains (gl (UInt8.ofNat n.val)) || Bl.contains (gl (UInt8.ofNat n.val)))=xo (n.val:Int):=by decide +kernel
theorem BF (c:UInt8):eG.contains (gl c)=iG (c.toNat:Int)∧(eG.contains (gl c) || Bl.contains (gl c))=xo (c.toNat:Int):=by
 have:=HC ⟨c.toNat,c.toNat_lt⟩
 simpa using this
def okC (j:Nat) (c:UInt8):Bool:=eG.contains (gl c) || (decide (0<j) && Bl.contains (gl c))
theorem FB (s:List UInt8):gk s=true↔(1≤s.length∧s.length≤32)∧∀ j,j<s.length→okC j (s.getD j 0)=true:=by
 simp only [gk,Bool.and_eq_true,decide_eq_true_eq,List.all_eq_true]
 constructor
 · rintro ⟨⟨⟨h1,h2⟩,h3⟩,h4⟩
   refine ⟨⟨h1,h2⟩,fun j hj=>?_⟩
   obtain ⟨e1,e2⟩:=BF (s.getD j 0)
   by_cases h0:j=0
   · subst h0
     rw [okC,e1,h3];rfl
   · have hm:s.getD j 0∈s:=by simp [hj]
     have:=h4 _ hm
     rw [← e2] at this
     rw [okC,show decide (0<j)=true by simp;omega,Bool.true_and]
     exact this
 · rintro ⟨⟨h1,h2⟩,h3⟩
   refine ⟨⟨⟨h1,h2⟩,?_⟩,fun c hc=>?_⟩
   · have:=h3 0 (by omega)
     rw [okC] at this
     simp only [Nat.lt_irrefl,decide_false,Bool.false_and,Bool.or_false] at this
     rw [← (BF _).1];exact this
   · obtain ⟨j,hj,rfl⟩:=List.mem_iff_getElem.1 hc
     have:=h3 j hj
     have e:s.getD j 0=s[j]:=by simp [hj]
     rw [e,okC] at this
     rw [← (BF _).2]
     cases hl:eG.contains (gl s[j]) with
     | true=>rfl
     | false =>
       rw [hl,Bool.false_or,Bool.and_eq_true] at this
       rw [this.2];rfl
theorem FO {s:List UInt8} (hs:(s.length:Int)≤140737488351232) {L:List Blk} {K:AV→List Blk→Prop} (h:K (.bool (gk s)) L):ab Tryz.prog 45 [.str s] L K:=by
 replace h:=hid h
 obtain ⟨t,ht⟩:∃ t,au s=t:=⟨_,rfl⟩
 have htl:t.length=s.length:=by rw [← ht];simp [au]
 have hg:∀ j,j<s.length→t.getD j 0=gl (s.getD j 0):=fun j hj=>by rw [← ht];simp [au,hj]
 replace htl:=hid htl
 replace hg:=hid hg
 have hit:=hid (FB s)
 refine af y5 (by simp [lr]) ?_
 simp only [lr,an]
 refine wk ?_
 refine B8 hs ?_
 rw [ht]
 refine sk ?_
 refine wk ?_
 refine ai (fun n T' L'=>∃ (i:Nat) (b:Bool),n=s.length+1 - i∧i≤s.length∧Hid (b=true↔(1≤s.length∧s.length≤32)∧∀ j,j<i→okC j (s.getD j 0)=true)∧T'=[(5,.int .i64 (i:Int)),(4,.bool b),(3,.str t)]∧L=L') (CutS (b:=Nat.le_refl _)) ⟨0,_,rfl,Nat.zero_le _,hid (by have:=htl.out;simp;omega),rfl,rfl⟩ ?_
 rintro _ _ _ ⟨i,b,rfl,hi,hb,rfl,rfl⟩
 have htl':=htl.out
 by_cases hlt:i<s.length
 · have g1:(i:Int)<(t.length:Int):=by omega
   have g2:IntKind.i64.wrap ((i:Int)+1)=(i:Int)+1:=ae (by omega) (by omega)
   have g3:=hg.out i hlt
   obtain ⟨c,hc⟩:∃ c,s.getD i 0=c:=⟨_,rfl⟩
   rw [hc] at g3
   replace hc:=hid hc
   clear htl'
   cases b with
   | false =>
     have hf:gk s=false:=by
       rw [← Bool.not_eq_true,hit.out]
       intro ⟨q1,q2⟩
       have:=hb.out.2 ⟨q1,fun j hj=>q2 j (by omega)⟩
       cases this
     have h':=h.out
     rw [hf] at h'
     replace h':=hid h'
     clear hf
     refine wk ?_
     exact ap h'.out
   | true =>
     have hnext:okC i c=true↔((1≤s.length∧s.length≤32)∧∀ j,j<i+1→okC j (s.getD j 0)=true):=by
       have hb1:=hb.out.1 rfl
       constructor
       · intro e
         refine ⟨hb1.1,fun j hj=>?_⟩
         rcases Nat.lt_or_ge j i with q|q
         · exact hb1.2 j q
         · have:j=i:=by omega
           subst this;rw [hc.out];exact e
       · rintro ⟨_,e⟩
         have:=e i (by omega)
         rwa [hc.out] at this
     replace hnext:=hid hnext
     have hok:okC i c=(eG.contains (gl c) || (decide (0<i) && Bl.contains (gl c))):=rfl
     replace hok:=hid hok
     refine wk ?_
     refine A5 (by simp) ?_
     cases hl:eG.contains (gl c) with
     | true =>
       have hk:=hid (show okC i c=true by rw [hok.out,hl];rfl)
       refine sk ?_
       refine wk ?_
       exact ao _ _ _ (by omega) (CutL (b:=Nat.le_refl _)) ⟨i+1,true,rfl,hlt,hid (by rw [← hnext.out,hk.out]),rfl,rfl⟩
     | false =>
       by_cases h0:i=0
       · have hk:=hid (show okC i c=false by rw [hok.out,hl,h0];rfl)
         have k0:¬ (0:Int)<(i:Int):=by omega
         clear h0
         refine sk ?_
         refine wk ?_
         exact ao _ _ _ (by omega) (CutL (b:=Nat.le_refl _)) ⟨i+1,false,rfl,hlt,hid (by rw [← hnext.out,hk.out]),rfl,rfl⟩
       · have hk:=hid (show okC i c=Bl.contains (gl c) by rw [hok.out,hl,show decide (0<i)=true by simp;omega];simp)
         have k0:(0:Int)<(i:Int):=by omega
         clear h0
         refine sk ?_
         repeat' first
           | refine cv ?_
           | (first|refine bp (by kernel_rfl) ?_|refine aQ (by kernel_rfl) ?_|refine aR ?_|refine dy ?_|refine cn (fun _=>?_)|refine aF ?_|refine bs ?_)
             refine sm ?_
           | (first|refine bj (by kernel_rfl) ?_|refine bq ?_|refine br ?_|refine cw (aE ?_))
             refine sl ?_
           | exact co
           | first|apply cq|apply bm|apply cr|apply bn|apply cu|apply bo
           | refine aU ?_
           | first|refine aS rfl ?_|refine aT rfl ?_|refine ax rfl ?_ ?_|refine a8 rfl (fun _=>?_) (fun _=>?_)|refine a7 rfl (fun _=>?_) (fun _=>?_)
           | ((first|refine aw (fun _=>?_) (fun _=>?_)|refine aD (fun _=>?_) (fun _=>?_))<;>try refine sm ?_)
           | refine And.intro trivial ?_
           | refine And.intro (by omega) ?_
           | refine aX rfl (fun _=>?_) (fun _=>?_)
           | refine And.intro ?_ ?_
         refine az (A5 (by simp) ⟨rfl,rfl⟩) ?_
         simp only [Kon,push_cast,reduceIte,Nat.reduceEqDiff,Nat.reduceAdd,Nat.reduceMul,Nat.reduceSub,Nat.reduceLT,Nat.reduceLeDiff,Int.reduceLT,Int.reduceLE,Int.reduceAdd,Int.reduceSub,Int.reduceNeg,Int.reduceToNat,Int.reduceEq,reduceCtorEq, *]
         repeat' first
           | refine cv ?_
           | (first|refine bp (by kernel_rfl) ?_|refine aQ (by kernel_rfl) ?_|refine aR ?_|refine dy ?_|refine cn (fun _=>?_)|refine aF ?_|refine bs ?_)
             refine sm ?_
           | (first|refine bj (by kernel_rfl) ?_|refine bq ?_|refine br ?_|refine cw (aE ?_))
             refine sl ?_
           | exact co
           | first|apply cq|apply bm|apply cr|apply bn|apply cu|apply bo
           | refine aU ?_
           | first|refine aS rfl ?_|refine aT rfl ?_|refine ax rfl ?_ ?_|refine a8 rfl (fun _=>?_) (fun _=>?_)|refine a7 rfl (fun _=>?_) (fun _=>?_)
           | ((first|refine aw (fun _=>?_) (fun _=>?_)|refine aD (fun _=>?_) (fun _=>?_))<;>try refine sm ?_)
           | refine And.intro trivial ?_
           | refine And.intro (by omega) ?_
           | refine aX rfl (fun _=>?_) (fun _=>?_)
           | refine And.intro ?_ ?_
         exact ao _ _ _ (by omega) (CutL (b:=Nat.le_refl _)) ⟨i+1,Bl.contains (gl c),rfl,hlt,hid (by rw [← hnext.out,hk.out]),rfl,rfl⟩
 · have hke:i=s.length:=by omega
   subst hke
   have g1:¬ (s.length:Int)<(t.length:Int):=by omega
   have hfin:b=gk s:=by
     have e:=hb.out.trans hit.out.symm
     cases b<;>cases hs':gk s<;>simp_all
   have h':=h.out
   rw [← hfin] at h'
   replace h':=hid h'
   clear hfin
   clear htl'
   refine wk ?_
   exact ap h'.out
set_option maxHeartbeats 8000000
set_option maxRecDepth 100000
theorem Iy {r:List Ava} {typ:List UInt8} {cap:Option Nat} (hn:r.length≤100000) (h1:∀ a∈r,(a.1.length:Int)≤100000) (h2:(typ.length:Int)≤100000) {L:List Blk} {K:AV→List Blk→Prop} (h:K (.bool (iM r typ)) L) :
   ab Tryz.prog 46 [C7 r cap,.str typ] L K:=by
 replace h:=hid h
 replace h1:=hid h1
 refine af An (by simp [rp]) ?_
 simp only [rp,an]
 refine wk ?_
 refine ai (fun n T' L'=>∃ (k:Nat) (Z:List Blk),n=r.length - k∧k≤r.length∧Hid (iM (r.take k) typ=false)∧T'=[(9,.int .i64 (k:Int)),(8,.int .i64 r.length),(7,C7 r cap),(1,.str typ)]∧L'=L++Z) (CutS (b:=by simp)) ⟨0,[],rfl,Nat.zero_le _,hid rfl,rfl,by simp⟩ ?_
 rintro _ _ _ ⟨k,Z,rfl,hk,hf,rfl,rfl⟩
 by_cases hlt:k<r.length
 · have g1:(k:Int)<(r.length:Int):=by omega
   have g2:IntKind.i64.wrap ((k:Int)+1)=(k:Int)+1:=ae (by omega) (by omega)
   have e1:=dr hlt
   have e2:k * 2+2≤(aW r).length:=by rw [cy];omega
   obtain ⟨⟨ty,va⟩,ha⟩:∃ a,r.getD k ([],[])=a:=⟨_,rfl⟩
   have ham:(ty,va)∈r:=by rw [← ha];simp [hlt]
   have htk:r.take (k+1)=r.take k++[(ty,va)]:=by rw [List.take_succ_eq_append_getElem hlt,← ha];simp [hlt]
   rw [ha] at e1
   simp only [kN] at e1
   have hs:iM (r.take (k+1)) typ=decide (au ty=au typ):=by
     have:=hf.out
     simp only [iM] at this ⊢
     rw [htk,List.any_append,this];simp
   have ha1:=h1.out _ ham
   simp only at ha1
   have hall:au ty=au typ→iM r typ=true:=fun e=>List.any_eq_true.2 ⟨_,ham,by simpa using e⟩
   replace hall:=hid hall
   replace hs:=hid hs
   clear ha ham htk
   by_cases hq:au ty=au typ
   · have h':=h.out
     rw [hall.out hq] at h'
     replace h':=hid h'
     have kk1:=@hid _ (fun L K=>zf ha1 (L:=L) (K:=K))
     have kk2:=@hid _ (fun L K=>zf h2 (L:=L) (K:=K))
     refine wk ?_
     exact aa rfl h'.out
   · have kk1:=@hid _ (fun L K=>zf ha1 (L:=L) (K:=K))
     have kk2:=@hid _ (fun L K=>zf h2 (L:=L) (K:=K))
     refine wk ?_
     exact ao _ _ _ (by omega) (CutL (b:=by simp)) ⟨k+1,_,rfl,hlt,hid (by rw [hs.out];simpa using hq),rfl,rfl⟩
 · have hke:k=r.length:=by omega
   subst hke
   have g1:¬ (r.length:Int)<(r.length:Int):=by omega
   have hn':=hf.out
   rw [List.take_length] at hn'
   have h':=h.out
   rw [hn'] at h'
   replace h':=hid h'
   clear hn'
   refine wk ?_
   exact aa rfl h'.out
set_option maxHeartbeats 8000000
set_option maxRecDepth 100000
theorem C5 {s:List UInt8} (hs:s.length≤100000) {L:List Blk} {K:AV→List Blk→Prop} (h:K (.str (ef s)) L):ab Tryz.prog 72 [.str s] L K:=by
 replace h:=hid h
 refine af uR (by simp [eN]) ?_
 simp only [eN,an]
 refine wk ?_
 refine cK (l:=[]) (n:=0) 3 1 rfl (Nat.zero_mul 1).symm ?_
 refine ai (fun n T' L'=>∃ (i m:Nat) (b:List UInt8),n=s.length - i∧i≤s.length∧m≤3 * i∧Hid (m=b.length∧b++wrL s.length i (s.drop i)=ef s)∧T'=[(4,.int .i64 (i:Int)),(3,.gsl (u8s b) m L.length 1),(0,.str s)]∧L'=L++[.spare m 1]) (CutS (b:=by simp)) ⟨0,0,[],rfl,Nat.zero_le _,by omega,hid ⟨rfl,rfl⟩,rfl,rfl⟩ ?_
 rintro _ _ _ ⟨i,m,b,rfl,hi,hm,hb,rfl,rfl⟩
 by_cases hlt:i<s.length
 · have g1:(i:Int)<(s.length:Int):=by omega
   have g2:IntKind.i64.wrap ((i:Int)+1)=(i:Int)+1:=ae (by omega) (by omega)
   obtain ⟨c,hc⟩:∃ c,s.getD i 0=c:=⟨_,rfl⟩
   have hdr:=Ea hlt
   rw [hc] at hdr
   have hb2:=hb.out.2
   rw [hdr] at hb2
   simp only [wrL] at hb2
   clear hdr
   replace hb2:=hid hb2
   obtain ⟨p1,hp1⟩:∃ p,([34,43,44,59,60,62,92]:List UInt8).contains c=p:=⟨_,rfl⟩
   obtain ⟨p2,hp2⟩:∃ p,([32,35]:List UInt8).contains c=p:=⟨_,rfl⟩
   have hq1:p1=true↔c∈([34,43,44,59,60,62,92]:List UInt8):=by rw [← hp1,List.contains_iff_mem]
   have hq2:p2=true↔(c=32∨c=35):=by rw [← hp2,List.contains_iff_mem];simp
   replace hq1:=hid hq1
   replace hq2:=hid hq2
   repeat' first
     | refine cv ?_
     | (first|refine bp (by kernel_rfl) ?_|refine aQ (by kernel_rfl) ?_|refine aR ?_|refine dy ?_|refine cn (fun _=>?_)|refine aF ?_|refine bs ?_|refine A5 (by simp) ?_|refine bG (A5 (by simp) ⟨rfl,rfl⟩) (A5 (by simp) ⟨rfl,rfl⟩) ?_|refine az (A5 (by simp) ⟨rfl,rfl⟩) ?_)
       refine sm ?_
     | (first|refine bj (by kernel_rfl) ?_|refine bq ?_|refine br ?_|refine cw (aE ?_))
       refine sl ?_
     | exact co
     | first|apply cq|apply bm|apply cr|apply bn|apply cu|apply bo
     | refine aU ?_
     | first|refine aS rfl ?_|refine aT rfl ?_|refine ax rfl ?_ ?_|refine a8 rfl (fun _=>?_) (fun _=>?_)|refine a7 rfl (fun _=>?_) (fun _=>?_)
     | ((first|refine aw (fun _=>?_) (fun _=>?_)|refine aD (fun _=>?_) (fun _=>?_))<;>try refine sm ?_)
     | refine And.intro trivial ?_
     | refine And.intro (by omega) ?_
     | refine aX rfl (fun _=>?_) (fun _=>?_)
     | refine And.intro ?_ ?_
   · rfl
   · omega
   · rename_i h0
     have hc0:=(bh c 0).1 h0
     rw [show u8s b++AV.frzL (u8s [92,48,48])=u8s (b++[92,48,48]) by simp [u8s,AV.frzL,AV.frz]]
     refine ao _ _ _ (by omega) (CutL (b:=by simp)) ⟨i+1,m+3,b++[92,48,48],rfl,hlt,by omega,hid ⟨by simp [hb.out.1],?_⟩,rfl,rfl⟩
     rw [← hb2.out,wrB,if_pos hc0,List.append_assoc]
   · rename_i h0 h1
     have hc0:¬ c=0:=fun e=>h0 ((bh c 0).2 e)
     have hq:(i=0∧(c=32∨c=35))∨(i+1=s.length∧c=32)∨c∈[34,43,44,59,60,62,92]:=by
       simp only [Bool.or_eq_true,Bool.and_eq_true,decide_eq_true_eq] at h1
       rcases h1 with (e|⟨e1,e2⟩)|⟨e1,e2⟩
       · exact .inr (.inr (hq1.out.1 e))
       · exact .inl ⟨by omega,hq2.out.1 e2⟩
       · exact .inr (.inl ⟨by omega,(bh c 32).1 e2⟩)
     rw [show u8s b++[AV.int IntKind.u8 92,AV.int IntKind.u8 (c.toNat:Int)]=u8s (b++[92,c]) by simp [u8s]]
     refine ao _ _ _ (by omega) (CutL (b:=by simp)) ⟨i+1,m+1+1,b++[92,c],rfl,hlt,by omega,hid ⟨by simp [hb.out.1],?_⟩,rfl,rfl⟩
     rw [← hb2.out,wrB,if_neg hc0,if_pos hq,List.append_assoc]
   · rename_i h0 h1
     have hc0:¬ c=0:=fun e=>h0 ((bh c 0).2 e)
     have hq:¬ ((i=0∧(c=32∨c=35))∨(i+1=s.length∧c=32)∨c∈[34,43,44,59,60,62,92]):=fun hq=>by
       rw [← Bool.not_eq_true] at h1
       refine h1 ?_
       simp only [Bool.or_eq_true,Bool.and_eq_true,decide_eq_true_eq]
       rcases hq with ⟨e1,e2⟩|⟨e1,e2⟩|e
       · exact .inl (.inr ⟨by omega,hq2.out.2 e2⟩)
       · exact .inr ⟨by omega,(bh c 32).2 e2⟩
       · exact .inl (.inl (hq1.out.2 e))
     rw [show u8s b++[AV.int IntKind.u8 (c.toNat:Int)]=u8s (b++[c]) by simp [u8s]]
     refine ao _ _ _ (by omega) (CutL (b:=by simp)) ⟨i+1,m+1,b++[c],rfl,hlt,by omega,hid ⟨by simp [hb.out.1],?_⟩,rfl,rfl⟩
     rw [← hb2.out,wrB,if_neg hc0,if_neg hq,List.append_assoc]
 · have hke:i=s.length:=by omega
   subst hke
   have g1:¬ (s.length:Int)<(s.length:Int):=by omega
   have e1:=gq b
   have e2:=fv b
   have e:=hb.out.2
   rw [List.drop_length,wrL,List.append_nil] at e
   have h':=h.out
   rw [← e] at h'
   replace h':=hid h'
   clear e
   refine wk ?_
   exact aa rfl h'.out
end Go.Proofs.YtgpnbkdcdmfgcaaGreat.Av
