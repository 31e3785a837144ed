/- Joined texts of the walk, made small by a program. -/
import Derived.Test.YtigifoeopopnbaaGreatDoorQk4
import Derived.Test.YtigifoeopopnbaaGreatDoorRows
import Derived.KernelRfl
import Derived.Test.YtigifoeopopnbaaGreatDoorQk18
import Derived.Test.YtigifoeopopnbaaGreatDoorQk19
import Derived.Test.YtigifoeopopnbaaGreatDoorQk6
set_option linter.unusedSimpArgs false
set_option linter.unusedVariables false
set_option maxRecDepth 100000
namespace Go.Proofs.YtigifoeopopnbaaGreatDoor.Av
open Go
def wr:LSO:=[Ak 6]
def wq:LSO:=[Aa 9 2,Ah 10 9,Ab 11 0]
def wp:LSO:=[Ai 12 11 10]
def wo:LSO:=[Aj 13 1 9 11,Ac 14 1 13,Aa 8 14]
def wn:LSO:=[Aa 15 0,Aa 16 8,Aa 17 1,o1 18 (.build [(.str []),(.int .i64 0),(.bool false),(.bool false)] [(0,(1,(tm 16))),(1,(1,(tm 17)))]),BM 19 18,BN 20 15 19,
 Aa 0 20]
def wm:LSO:=[Af 21 11 1,Aa 11 21]
def wl:LSO:=[Aa 22 0,Aa 6 22]
def oS:aV:=⟨23,(.seq (.sreg wr [])
 (.seq (.seq (.sreg wq [])
 (.block 0 (.loop (.seq (.sreg wp [])
 (.seq (.cond (tm 12) .skip
 (.exit 0))
 (.seq (.block 1 (.seq (.sreg wo Ck)
 (.sreg wn Cq)))
 (.sreg wm Cj)))))))
 (.seq (.sreg wl Cj)
 .ret))),[(.tmp 6)]⟩
attribute [push_cast] wr wq wp wo wn wm wl
theorem Ow:aX Tryz.prog (fun _ _=>1) 44=some oS.raw:=by kernel_rfl
def Fa:LSO:=[Cg 0]
def E9:LSO:=[Cg 1]
def E8:LSO:=[Ad 5 0 1,Ac 6 1 5,o1 7 (.bslice false 1 1 [(.str [])] [(0,(1,(.av (.str [111,98,106,101,99,116,67,108,97,115,115]))))]),Bx 8 44 6 3 7,Ad 9 0 1,Ap 1 9 8]
def E7:LSO:=[Ad 10 0 1,Ac 11 1 10,
 o1 12 (.bslice false 1 4 [(.str []),(.str []),(.str []),(.str [])] [(0,(1,(.av (.str [99,110])))),(1,(1,(.av (.str [115,110])))),(2,(1,(.av (.str [111,117])))),(3,(1,(.av (.str [111]))))]),
 Bx 13 44 11 1 12,Ad 14 0 1,Ap 1 14 13]
def E6:LSO:=[Ad 15 0 1,Ac 16 1 15,
 o1 17 (.bslice false 1 3 [(.str []),(.str []),(.str [])] [(0,(1,(.av (.str [100,99])))),(1,(1,(.av (.str [117,105,100])))),(2,(1,(.av (.str [109,97,105,108]))))]),
 Bx 18 44 16 3 17,Ad 19 0 1,Ap 1 19 18]
def E5:LSO:=[Ad 20 0 1,Ac 21 1 20,B8 22,Bx 23 44 21 1 22,Ad 24 0 1,Ap 1 24 23]
def EZ:LSO:=[Ad 25 0 1,Ac 26 1 25,o1 27 (.bslice false 1 1 [(.str [])] [(0,(1,(.av (.str [109,101,109,98,101,114]))))]),Bx 28 44 26 6 27,Ad 29 0 1,Ap 1 29 28]
def EY:LSO:=[Ad 30 0 1,Ac 31 1 30,o1 32 (.bslice false 1 1 [(.str [])] [(0,(1,(.av (.str [117,115,101,114,80,97,115,115,119,111,114,100]))))]),Bx 33 44 31 7 32,
 Ad 34 0 1,Ap 1 34 33]
def EX:LSO:=[Ad 35 0 1,Ac 36 1 35,
 o1 37 (.build [(.str []),(.int .i64 0),(.bool false),(.bool false)] [(0,(1,(.av (.str [101,109,112,108,111,121,101,101,78,117,109,98,101,114])))),(1,(1,(iv 4))),(2,(1,(.av (.bool true))))]),
 BM 38 37,BN 39 36 38,Ad 40 0 1,Ap 1 40 39]
def EW:LSO:=[Ad 41 0 1,Ac 42 1 41,
 o1 43 (.build [(.str []),(.int .i64 0),(.bool false),(.bool false)] [(0,(1,(.av (.str [97,99,116,105,118,101])))),(1,(1,(iv 5))),(2,(1,(.av (.bool true))))]),BM 44 43,
 BN 45 42 44,Ad 46 0 1,Ap 1 46 45]
def xf:LSO:=[o1 47 (.bslice false 1 5 [(.str []),(.str []),(.str []),(.str []),(.str [])] [(0,(1,(.av (.str [99,114,101,97,116,101,100,65,116])))),(1,(1,(.av (.str [99,104,97,110,103,101,100,65,116])))),(2,(1,(.av (.str [112,119,100,70,97,105,108,117,114,101])))),(3,(1,(.av (.str [112,119,100,76,111,99,107,101,100])))),(4,(1,(.av (.str [112,119,100,67,104,97,110,103,101,100]))))]),
 Ah 48 47,Ab 49 0]
def xe:LSO:=[Ai 50 49 48]
def xd:LSO:=[Aj 51 1 47 49,Ac 52 1 51,Aa 3 52]
def xc:LSO:=[Aa 53 3,
 o1 54 (.build [(.str []),(.int .i64 0),(.bool false),(.bool false)] [(0,(1,(tm 53))),(1,(1,(iv 4))),(2,(1,(.av (.bool true)))),(3,(1,(.av (.bool true))))]),Bh 4,Ap 4 4 54]
def xb:LSO:=[Aa 55 3,o1 56 (.bin .eql (tm 55) (.av (.str [112,119,100,70,97,105,108,117,114,101])))]
def xa:LSO:=[Ad 57 1 4,o0 (.store 1 (tm 57) (iv 3))]
def w9:LSO:=[Ad 58 2 4,o0 (.store 1 (tm 58) (.av (.bool false)))]
def w8:LSO:=[Ad 59 0 1,Ac 60 1 59,An 61 4 4,BM 62 61,BN 63 60 62,Ad 64 0 1,Ap 1 64 63]
def w7:LSO:=[Af 65 49 1,Aa 49 65]
def wZ:LSO:=[Ad 66 1 1,Ac 67 1 66,o1 68 (.bslice false 1 1 [(.str [])] [(0,(1,(.av (.str [111,98,106,101,99,116,67,108,97,115,115]))))]),
 o1 69 (.bslice false 1 5 [(.str []),(.str []),(.str []),(.str []),(.str [])] [(0,(1,(.av (.str [99,114,101,97,116,101,100,65,116])))),(1,(1,(.av (.str [99,104,97,110,103,101,100,65,116])))),(2,(1,(.av (.str [112,119,100,70,97,105,108,117,114,101])))),(3,(1,(.av (.str [112,119,100,76,111,99,107,101,100])))),(4,(1,(.av (.str [112,119,100,67,104,97,110,103,101,100]))))]),
 o1 70 (.build [(.str []),(.str []),(.int .i64 0),(.sl [] 0 (some 0)),(.sl [] 0 (some 0))] [(0,(1,(.av (.str [116,111,112])))),(3,(1,(tm 68))),(4,(1,(tm 69)))]),Bd 71 70,
 Be 72 67 71,Ad 73 1 1,Ap 1 73 72]
def wY:LSO:=[Ad 74 1 1,Ac 75 1 74,o1 76 (.bslice false 1 1 [(.str [])] [(0,(1,(.av (.str [100,99]))))]),B8 77,
 o1 78 (.build [(.str []),(.str []),(.int .i64 0),(.sl [] 0 (some 0)),(.sl [] 0 (some 0))] [(0,(1,(.av (.str [100,111,109,97,105,110])))),(1,(1,(.av (.str [116,111,112])))),(2,(1,(iv 1))),(3,(1,(tm 76))),(4,(1,(tm 77)))]),
 Bd 79 78,Be 80 75 79,Ad 81 1 1,Ap 1 81 80]
def wX:LSO:=[Ad 82 1 1,Ac 83 1 82,o1 84 (.bslice false 1 1 [(.str [])] [(0,(1,(.av (.str [111]))))]),B8 85,
 o1 86 (.build [(.str []),(.str []),(.int .i64 0),(.sl [] 0 (some 0)),(.sl [] 0 (some 0))] [(0,(1,(.av (.str [111,114,103,97,110,105,122,97,116,105,111,110])))),(1,(1,(.av (.str [116,111,112])))),(2,(1,(iv 1))),(3,(1,(tm 84))),(4,(1,(tm 85)))]),
 Bd 87 86,Be 88 83 87,Ad 89 1 1,Ap 1 89 88]
def wW:LSO:=[Ad 90 1 1,Ac 91 1 90,o1 92 (.bslice false 1 1 [(.str [])] [(0,(1,(.av (.str [111,117]))))]),B8 93,
 o1 94 (.build [(.str []),(.str []),(.int .i64 0),(.sl [] 0 (some 0)),(.sl [] 0 (some 0))] [(0,(1,(.av (.str [111,114,103,97,110,105,122,97,116,105,111,110,97,108,85,110,105,116])))),(1,(1,(.av (.str [116,111,112])))),(2,(1,(iv 1))),(3,(1,(tm 92))),(4,(1,(tm 93)))]),
 Bd 95 94,Be 96 91 95,Ad 97 1 1,Ap 1 97 96]
def wV:LSO:=[Ad 98 1 1,Ac 99 1 98,o1 100 (.bslice false 1 2 [(.str []),(.str [])] [(0,(1,(.av (.str [99,110])))),(1,(1,(.av (.str [115,110]))))]),
 o1 101 (.bslice false 1 2 [(.str []),(.str [])] [(0,(1,(.av (.str [100,101,115,99,114,105,112,116,105,111,110])))),(1,(1,(.av (.str [117,115,101,114,80,97,115,115,119,111,114,100]))))]),
 o1 102 (.build [(.str []),(.str []),(.int .i64 0),(.sl [] 0 (some 0)),(.sl [] 0 (some 0))] [(0,(1,(.av (.str [112,101,114,115,111,110])))),(1,(1,(.av (.str [116,111,112])))),(2,(1,(iv 1))),(3,(1,(tm 100))),(4,(1,(tm 101)))]),
 Bd 103 102,Be 104 99 103,Ad 105 1 1,Ap 1 105 104]
def wU:LSO:=[Ad 106 1 1,Ac 107 1 106,
 o1 108 (.bslice false 1 4 [(.str []),(.str []),(.str []),(.str [])] [(0,(1,(.av (.str [117,105,100])))),(1,(1,(.av (.str [109,97,105,108])))),(2,(1,(.av (.str [101,109,112,108,111,121,101,101,78,117,109,98,101,114])))),(3,(1,(.av (.str [97,99,116,105,118,101]))))]),
 o1 109 (.build [(.str []),(.str []),(.int .i64 0),(.sl [] 0 (some 0)),(.sl [] 0 (some 0))] [(0,(1,(.av (.str [105,110,101,116,80,101,114,115,111,110])))),(1,(1,(.av (.str [112,101,114,115,111,110])))),(2,(1,(iv 1))),(4,(1,(tm 108)))]),
 Bd 110 109,Be 111 107 110,Ad 112 1 1,Ap 1 112 111]
def wT:LSO:=[Ad 113 1 1,Ac 114 1 113,o1 115 (.bslice false 1 2 [(.str []),(.str [])] [(0,(1,(.av (.str [99,110])))),(1,(1,(.av (.str [109,101,109,98,101,114]))))]),
 B8 116,
 o1 117 (.build [(.str []),(.str []),(.int .i64 0),(.sl [] 0 (some 0)),(.sl [] 0 (some 0))] [(0,(1,(.av (.str [103,114,111,117,112])))),(1,(1,(.av (.str [116,111,112])))),(2,(1,(iv 1))),(3,(1,(tm 115))),(4,(1,(tm 116)))]),
 Bd 118 117,Be 119 114 118,Ad 120 1 1,Ap 1 120 119]
def wS:LSO:=[Ad 121 1 1,Ac 122 1 121,o1 123 (.bslice false 1 1 [(.str [])] [(0,(1,(.av (.str [117,115,101,114,80,97,115,115,119,111,114,100]))))]),
 o1 124 (.build [(.str []),(.str []),(.int .i64 0),(.sl [] 0 (some 0)),(.sl [] 0 (some 0))] [(0,(1,(.av (.str [115,101,99,117,114,101,100])))),(1,(1,(.av (.str [116,111,112])))),(2,(1,(iv 2))),(3,(1,(tm 123)))]),
 Bd 125 124,Be 126 122 125,Ad 127 1 1,Ap 1 127 126]
def wR:LSO:=[Ad 128 1 1,Ac 129 1 128,o1 130 (.bslice false 1 2 [(.str []),(.str [])] [(0,(1,(.av (.str [117,105,100])))),(1,(1,(.av (.str [109,97,105,108]))))]),
 o1 131 (.build [(.str []),(.str []),(.int .i64 0),(.sl [] 0 (some 0)),(.sl [] 0 (some 0))] [(0,(1,(.av (.str [108,97,98,101,108,108,101,100])))),(1,(1,(.av (.str [116,111,112])))),(2,(1,(iv 2))),(4,(1,(tm 130)))]),
 Bd 132 131,Be 133 129 132,Ad 134 1 1,Ap 1 134 133]
def wQ:LSO:=[An 135 2 1,Ap 2 0 135]
def uI:aV:=⟨136,(.seq (.sreg Fa [])
 (.seq (.sreg E9 [])
 (.seq (.sreg E8 Cs)
 (.seq (.sreg E7 Cs)
 (.seq (.sreg E6 Cs)
 (.seq (.sreg E5 Cs)
 (.seq (.sreg EZ Cs)
 (.seq (.sreg EY Cs)
 (.seq (.sreg EX CB)
 (.seq (.sreg EW CB)
 (.seq (.seq (.sreg xf [])
 (.block 0 (.loop (.seq (.sreg xe [])
 (.seq (.cond (tm 50) .skip
 (.exit 0))
 (.seq (.block 1 (.seq (.sreg xd Ck)
 (.seq (.sreg xc Ck)
 (.seq (.seq (.sreg xb Cj)
 (.cond (tm 56) (.seq (.sreg xa [false])
 (.sreg w9 [false]))
 .skip))
 (.sreg w8 CB)))))
 (.sreg w7 Cj)))))))
 (.seq (.sreg wZ Cy)
 (.seq (.sreg wY Cy)
 (.seq (.sreg wX Cy)
 (.seq (.sreg wW Cy)
 (.seq (.sreg wV Cy)
 (.seq (.sreg wU CF)
 (.seq (.sreg wT Cy)
 (.seq (.sreg wS CF)
 (.seq (.sreg wR CF)
 (.seq (.sreg wQ [false])
 .ret))))))))))))))))))))),[(.cell true 2 0)]⟩
attribute [push_cast] Fa E9 E8 E7 E6 E5 EZ EY EX EW xf xe xd xc xb xa w9 w8 w7 wZ wY wX wW wV wU wT wS wR wQ
theorem PM:aX Tryz.prog (fun _ _=>1) 20=some uI.raw:=by kernel_rfl
attribute [push_cast] oS
variable {L:List Blk} {K:aef}
set_option maxHeartbeats 8000000
set_option maxRecDepth 1000000
abbrev tnC (syn:Int) (nm:List UInt8):List AV:=[.str nm,.int .i64 syn,.bool false,.bool false]
theorem Xx {α:Type} {L:List α} {p:Nat} {b:α} (h:L[p]?=some b):L.set p b=L:=by
 apply agb;intro i;rw [aeD];split
 ·rename_i e;subst e
  rw [h,if_pos (aeh.1 h).1]
 ·rfl
theorem aa0 {C:List AV} {n p:Nat} {syn:Int} {names:List (List UInt8)} {cap:Option Nat} (hn:n+names.length<=1100000) (hp:L[p]?=some (.spare n 4))
  (h:K (.gsl (C++names.flatMap (tnC syn)) (n+names.length) p 4) (L.set p (.spare (n+names.length) 4))) :
  aee 44 [.gsl C n p 4,.int .i64 syn,.sl (names.map AV.str) names.length cap] L K:=by
 have hpl:p<L.length:=(aeh.1 hp).1;have hset:∀ b,(L.set p b)[p]?=some b:=fun b=>by simp [hpl]
 replace h:=hid h;refine aed Ow ?_;refine ai (fun m T' L'=>∃ (j z:Nat) (D:List AV) (M:List Blk),m=names.length - j/\j<=names.length/\z=n+j/\Hid (D=C++(names.take j).flatMap (tnC syn))/\Hid (M=L.set p (.spare z 4))/\T'=[(11,.int .i64 (j:Int)),(10,.int .i64 names.length),(9,.sl (names.map AV.str) names.length cap),(0,.gsl D z p 4),(1,.int .i64 syn)]/\M=L') (CutS (b:=aeg _)) ⟨0,n,C,L,rfl,aej _,rfl,hid (by simp),hid (Xx hp).symm,rfl,rfl⟩ ?_;rintro _ _ _ ⟨j,z,D,M,rfl,hj,hz,hD,hM,rfl,rfl⟩;by_cases hlt:j<names.length
 ·have g1:(j:Int)<(names.length:Int):=by omega
  have g2:=aec j (by omega);obtain ⟨x,hx⟩:=aea (names.getD j []);have j3:(names.map AV.str).getD j .undef=.str x:=by rw [<- hx];simp [hlt]
  have htk:names.take (j+1)=names.take j++[x]:=by rw [aeL hlt,<- hx];simp [hlt]
  have hMp:M[p]?=some (.spare z 4):=by rw [hM.out];exact hset _
  have hD2:D++[.str x,.int .i64 syn,.bool false,.bool false]=C++(names.take (j+1)).flatMap (tnC syn):=by rw [hD.out,htk];simp
  have hM2:M.set p (.spare (z+1) 4)=L.set p (.spare (z+1) 4):=by rw [hM.out,afp]
  have hMl:M.length=L.length:=by rw [hM.out];simp
  replace hD2:=hid hD2;replace hM2:=hid hM2;have hz1:z+1<=1100000:=by omega
  have hz2:z+1=n+(j+1):=by omega
  replace hz2:=hid hz2;clear hx htk hD hM hset hz;refine wk ?_;exact ag _ _ _ (by omega) (CutL (b:=by simp;omega)) ⟨j+1,z+1,_,_,rfl,hlt,hz2.out,hD2,hM2,rfl,rfl⟩
 ·have hke:j=names.length:=by omega
  subst hke;have g1:¬ (names.length:Int)<(names.length:Int):=by omega
  have hD2:=hD.out;have hM2:=hM.out;rw [aeE] at hD2;subst hD2 hz;rw [hM2] at *;clear hD hM hM2;refine wk ?_;exact ac h.out
def bv:List Typ:=[([111,98,106,101,99,116,67,108,97,115,115],3,false,false),([99,110],1,false,false),([115,110],1,false,false),([111,117],1,false,false),([111],1,false,false),([100,99],3,false,false),([117,105,100],3,false,false),([109,97,105,108],3,false,false),([100,101,115,99,114,105,112,116,105,111,110],1,false,false),([109,101,109,98,101,114],6,false,false),([117,115,101,114,80,97,115,115,119,111,114,100],7,false,false),([101,109,112,108,111,121,101,101,78,117,109,98,101,114],4,true,false),([97,99,116,105,118,101],5,true,false),([99,114,101,97,116,101,100,65,116],4,true,true),([99,104,97,110,103,101,100,65,116],4,true,true),([112,119,100,70,97,105,108,117,114,101],3,false,true),([112,119,100,76,111,99,107,101,100],4,true,true),([112,119,100,67,104,97,110,103,101,100],4,true,true)]
def SS:List AV:=[.str [116,111,112],.str [],.int .i64 0,.sl [.str [111,98,106,101,99,116,67,108,97,115,115]] 1 none,.sl [.str [99,114,101,97,116,101,100,65,116],.str [99,104,97,110,103,101,100,65,116],.str [112,119,100,70,97,105,108,117,114,101],.str [112,119,100,76,111,99,107,101,100],.str [112,119,100,67,104,97,110,103,101,100]] 5 none,.str [100,111,109,97,105,110],.str [116,111,112],.int .i64 1,.sl [.str [100,99]] 1 none,.sl [.str [100,101,115,99,114,105,112,116,105,111,110]] 1 none,.str [111,114,103,97,110,105,122,97,116,105,111,110],.str [116,111,112],.int .i64 1,.sl [.str [111]] 1 none,.sl [.str [100,101,115,99,114,105,112,116,105,111,110]] 1 none,.str [111,114,103,97,110,105,122,97,116,105,111,110,97,108,85,110,105,116],.str [116,111,112],.int .i64 1,.sl [.str [111,117]] 1 none,.sl [.str [100,101,115,99,114,105,112,116,105,111,110]] 1 none,.str [112,101,114,115,111,110],.str [116,111,112],.int .i64 1,.sl [.str [99,110],.str [115,110]] 2 none,.sl [.str [100,101,115,99,114,105,112,116,105,111,110],.str [117,115,101,114,80,97,115,115,119,111,114,100]] 2 none,.str [105,110,101,116,80,101,114,115,111,110],.str [112,101,114,115,111,110],.int .i64 1,.sl [] 0 none,.sl [.str [117,105,100],.str [109,97,105,108],.str [101,109,112,108,111,121,101,101,78,117,109,98,101,114],.str [97,99,116,105,118,101]] 4 none,.str [103,114,111,117,112],.str [116,111,112],.int .i64 1,.sl [.str [99,110],.str [109,101,109,98,101,114]] 2 none,.sl [.str [100,101,115,99,114,105,112,116,105,111,110]] 1 none,.str [115,101,99,117,114,101,100],.str [116,111,112],.int .i64 2,.sl [.str [117,115,101,114,80,97,115,115,119,111,114,100]] 1 none,.sl [] 0 none,.str [108,97,98,101,108,108,101,100],.str [116,111,112],.int .i64 2,.sl [] 0 none,.sl [.str [117,105,100],.str [109,97,105,108]] 2 none]
theorem LR:∀ ts:List Typ,AV.frzL (aW ts)=aW ts
 | []=>rfl
 | ty::ts=>by
   rw [show aW (ty::ts)=tyC ty++aW ts from rfl];simp only [tyC,aeT,aeR,AV.frzL,AV.frz,LR ts]
theorem N6 (p:Nat->Bool):∀ ts:List Typ,AV.refsL p (aW ts)=true
 | []=>rfl
 | ty::ts=>by
   rw [show aW (ty::ts)=tyC ty++aW ts from rfl];simp only [tyC,aeT,aeR,AV.refsL,AV.refs,N6 p ts,afD]
theorem adD {P:Program} {N:Nat} {own:Nat->Nat->Nat} {Q:Exit->Tm->List Blk->Prop} {T:Tm} {lc:bD} {L L':List Blk} (e:L=L') (h:AW P N own lc Q T L'):AW P N own lc Q T L:=e ▸ h
theorem adg (h:K (.agg [.sl (aW bv) bv.length none,.sl SS 9 none]) L):aee 20 [] L K:=by
 have st:∀ (a:Nat) (syn:Int) (ns:List (List UInt8)) (b:Nat),aW (bv.take a)++ns.flatMap (tnC syn)=aW (bv.take b)->a+ns.length=b->b<=100->∀ K:AV->List Blk->Prop,K (.gsl (aW (bv.take b)) b (L.length+2) 4) (L++[.cells [.sl [] 0 (some 0),.sl [] 0 (some 0)],.cells [.gsl (aW (bv.take a)) a (L.length+2) 4,.gsl [] 0 (L.length+3) 5],.spare b 4,.spare 0 5])->aee 44 [.gsl (aW (bv.take a)) a (L.length+2) 4,.int .i64 syn,.sl (ns.map AV.str) ns.length (some ns.length)] (L++[.cells [.sl [] 0 (some 0),.sl [] 0 (some 0)],.cells [.gsl (aW (bv.take a)) a (L.length+2) 4,.gsl [] 0 (L.length+3) 5],.spare a 4,.spare 0 5]) K:=fun a syn ns b h1 h2 h3 K q=>by
  refine aa0 (by omega) (by simp) ?_;rw [h1,h2,ae5 _ _ (by omega),show L.length+2 - L.length=2 by omega];exact q
 have s1:=st 0 3 [[111,98,106,101,99,116,67,108,97,115,115]] 1 rfl rfl (by omega);have s2:=st 1 1 [[99,110],[115,110],[111,117],[111]] 5 rfl rfl (by omega);have s3:=st 5 3 [[100,99],[117,105,100],[109,97,105,108]] 8 rfl rfl (by omega);have s4:=st 8 1 [[100,101,115,99,114,105,112,116,105,111,110]] 9 rfl rfl (by omega);have s5:=st 9 6 [[109,101,109,98,101,114]] 10 rfl rfl (by omega);have s6:=st 10 7 [[117,115,101,114,80,97,115,115,119,111,114,100]] 11 rfl rfl (by omega);clear st;obtain ⟨C1,h1⟩:=aea (aW (bv.take 1));obtain ⟨C5,h5⟩:=aea (aW (bv.take 5));obtain ⟨C8,h8⟩:=aea (aW (bv.take 8));obtain ⟨C9,h9⟩:=aea (aW (bv.take 9));obtain ⟨C10,h10⟩:=aea (aW (bv.take 10));obtain ⟨C11,h11⟩:=aea (aW (bv.take 11));rw [show aW (bv.take 0)=[] from rfl] at s1;rw [h1] at s1 s2;rw [h5] at s2 s3;rw [h8] at s3 s4;rw [h9] at s4 s5;rw [h10] at s5 s6;rw [h11] at s6;simp only [aeG,afN,aet,afk,afJ,Nat.reduceAdd] at s1 s2 s3 s4 s5 s6;have kk1:=@hid _ (fun {K:aef}=>s1 K);have kk2:=@hid _ (fun {K:aef}=>s2 K);have kk3:=@hid _ (fun {K:aef}=>s3 K);have kk4:=@hid _ (fun {K:aef}=>s4 K);have kk5:=@hid _ (fun {K:aef}=>s5 K);have kk6:=@hid _ (fun {K:aef}=>s6 K);clear s1 s2 s3 s4 s5 s6;clear h1 h5 h8 h9 h10;replace h11:=hid h11;replace h:=hid h;refine af PM (by simp [uI]) ?_;simp only [uI,aq]
 iterate 6 first
  | refine aY ?_
  | (first|refine aO (by kernel_rfl) ?_|refine aA (by kernel_rfl) ?_|refine aB ?_|refine bw ?_|refine a6 (fun _=>?_)|refine ax ?_|refine aR ?_)
    simp (config:={ maxSteps:=2000000 }) only [Kon,push_cast,reduceIte,Nat.reduceEqDiff,Nat.reduceAdd,Nat.reduceMul,Nat.reduceSub,Nat.reduceLT,Nat.reduceLeDiff,Int.reduceLT,Int.reduceLE,Int.reduceAdd,Int.reduceSub,Int.reduceNeg,Int.reduceToNat,Int.reduceEq,reduceCtorEq, *]
  | (first|refine aK (by kernel_rfl) ?_|refine aP ?_|refine aQ ?_|refine bd (aw ?_))
    simp only [push_cast,reduceIte,Nat.reduceEqDiff,Nat.reduceAdd,Nat.reduceMul,Nat.reduceSub,Nat.reduceLT,Nat.reduceLeDiff,Int.reduceLT,Int.reduceLE,Int.reduceAdd,Int.reduceSub,Int.reduceNeg,Int.reduceToNat,Int.reduceEq,reduceCtorEq, *]
  | exact a7
  | first|apply a8|apply aL|apply ba|apply aM|apply bc|apply aN
  | refine aE ?_
  | first|refine aC rfl ?_|refine aD rfl ?_|refine ap rfl ?_ ?_|refine aG rfl (fun _=>?_) (fun _=>?_)|refine aF rfl (fun _=>?_) (fun _=>?_)
  | ((first|refine ao (fun _=>?_) (fun _=>?_)|refine au (fun _=>?_) (fun _=>?_))<;>try simp (config:={ maxSteps:=2000000 }) only [Kon,push_cast,reduceIte,Nat.reduceEqDiff,Nat.reduceAdd,Nat.reduceMul,Nat.reduceSub,Nat.reduceLT,Nat.reduceLeDiff,Int.reduceLT,Int.reduceLE,Int.reduceAdd,Int.reduceSub,Int.reduceNeg,Int.reduceToNat,Int.reduceEq,reduceCtorEq, *])
  | refine And.intro trivial ?_
  | refine And.intro (by omega) ?_
  | refine aI rfl (fun _=>?_) (fun _=>?_)
  | refine And.intro ?_ ?_
 refine Vy (L.length+1) 0 4 (c:=[.sl [] 0 (some 0),.sl [] 0 (some 0)]) (l:=[]) (n:=0) (by simp) rfl rfl ?_;refine Vy (L.length+1) 1 5 (c:=[.gsl [] 0 (L.length+2) 4,.sl [] 0 (some 0)]) (l:=[]) (n:=0) (by simp) rfl rfl ?_;refine adD (L':=L++[.cells [.sl [] 0 (some 0),.sl [] 0 (some 0)],.cells [.gsl [] 0 (L.length+2) 4,.gsl [] 0 (L.length+3) 5],.spare 0 4,.spare 0 5]) (by simp) ?_;refine wk ?_;refine ai (fun m T' L'=>∃ (j z:Nat) (D:List AV) (X:List Blk),m=5 - j/\j<=5/\Hid (z=13+j)/\Hid (D=aW (bv.take (13+j)))/\T'=[(49,.int .i64 (j:Int)),(48,.int .i64 5),(47,.sl [.str [99,114,101,97,116,101,100,65,116],.str [99,104,97,110,103,101,100,65,116],.str [112,119,100,70,97,105,108,117,114,101],.str [112,119,100,76,111,99,107,101,100],.str [112,119,100,67,104,97,110,103,101,100]] 5 (some 5)),(1,.ptr (L.length+1) 0),(0,.ptr L.length 0)]/\L'=L++(.cells [.sl [] 0 (some 0),.sl [] 0 (some 0)] :: .cells [.gsl D z (L.length+2) 4,.gsl [] 0 (L.length+3) 5] :: .spare z 4 :: .spare 0 5::X)) (CutS (b:=by simp)) ⟨0,13,_,[],rfl,by omega,hid rfl,hid (by rw [<- h11.out];rfl),rfl,rfl⟩ ?_;clear kk1 kk2 kk3 kk4 kk5 kk6 h11;rintro _ _ _ ⟨j,z,D,X,rfl,hj,hz,hD,rfl,rfl⟩;by_cases hlt:j<5
 ·have g1:(j:Int)<5:=by omega
  have g2:=aec j (by omega);have hz1:z<=20:=by have:=hz.out;omega
  have hz2:z+1=13+(j+1):=by have:=hz.out;omega
  replace hz2:=hid hz2;have hj5:j=0\/j=1\/j=2\/j=3\/j=4:=by omega
  clear hz;rcases hj5 with e|e|e|e|e
  ·have e3:([.str [99,114,101,97,116,101,100,65,116],.str [99,104,97,110,103,101,100,65,116],.str [112,119,100,70,97,105,108,117,114,101],.str [112,119,100,76,111,99,107,101,100],.str [112,119,100,67,104,97,110,103,101,100]]:List AV).getD j .undef=.str [99,114,101,97,116,101,100,65,116]:=by rw [e];rfl
   have hD2:D++[.str [99,114,101,97,116,101,100,65,116],.int .i64 4,.bool true,.bool true]=aW (bv.take (13+(j+1))):=by rw [hD.out,e];rfl
   replace hD2:=hid hD2;replace e:=hid e;clear hD;refine wk ?_;exact ag _ _ _ (by omega) (CutL (b:=by simp)) ⟨j+1,z+1,_,_,rfl,hlt,hz2,hD2,rfl,rfl⟩
  ·have e3:([.str [99,114,101,97,116,101,100,65,116],.str [99,104,97,110,103,101,100,65,116],.str [112,119,100,70,97,105,108,117,114,101],.str [112,119,100,76,111,99,107,101,100],.str [112,119,100,67,104,97,110,103,101,100]]:List AV).getD j .undef=.str [99,104,97,110,103,101,100,65,116]:=by rw [e];rfl
   have hD2:D++[.str [99,104,97,110,103,101,100,65,116],.int .i64 4,.bool true,.bool true]=aW (bv.take (13+(j+1))):=by rw [hD.out,e];rfl
   replace hD2:=hid hD2;replace e:=hid e;clear hD;refine wk ?_;exact ag _ _ _ (by omega) (CutL (b:=by simp)) ⟨j+1,z+1,_,_,rfl,hlt,hz2,hD2,rfl,rfl⟩
  ·have e3:([.str [99,114,101,97,116,101,100,65,116],.str [99,104,97,110,103,101,100,65,116],.str [112,119,100,70,97,105,108,117,114,101],.str [112,119,100,76,111,99,107,101,100],.str [112,119,100,67,104,97,110,103,101,100]]:List AV).getD j .undef=.str [112,119,100,70,97,105,108,117,114,101]:=by rw [e];rfl
   have hD2:D++[.str [112,119,100,70,97,105,108,117,114,101],.int .i64 3,.bool false,.bool true]=aW (bv.take (13+(j+1))):=by rw [hD.out,e];rfl
   replace hD2:=hid hD2;replace e:=hid e;clear hD;refine wk ?_;exact ag _ _ _ (by omega) (CutL (b:=by simp)) ⟨j+1,z+1,_,_,rfl,hlt,hz2,hD2,rfl,rfl⟩
  ·have e3:([.str [99,114,101,97,116,101,100,65,116],.str [99,104,97,110,103,101,100,65,116],.str [112,119,100,70,97,105,108,117,114,101],.str [112,119,100,76,111,99,107,101,100],.str [112,119,100,67,104,97,110,103,101,100]]:List AV).getD j .undef=.str [112,119,100,76,111,99,107,101,100]:=by rw [e];rfl
   have hD2:D++[.str [112,119,100,76,111,99,107,101,100],.int .i64 4,.bool true,.bool true]=aW (bv.take (13+(j+1))):=by rw [hD.out,e];rfl
   replace hD2:=hid hD2;replace e:=hid e;clear hD;refine wk ?_;exact ag _ _ _ (by omega) (CutL (b:=by simp)) ⟨j+1,z+1,_,_,rfl,hlt,hz2,hD2,rfl,rfl⟩
  ·have e3:([.str [99,114,101,97,116,101,100,65,116],.str [99,104,97,110,103,101,100,65,116],.str [112,119,100,70,97,105,108,117,114,101],.str [112,119,100,76,111,99,107,101,100],.str [112,119,100,67,104,97,110,103,101,100]]:List AV).getD j .undef=.str [112,119,100,67,104,97,110,103,101,100]:=by rw [e];rfl
   have hD2:D++[.str [112,119,100,67,104,97,110,103,101,100],.int .i64 4,.bool true,.bool true]=aW (bv.take (13+(j+1))):=by rw [hD.out,e];rfl
   replace hD2:=hid hD2;replace e:=hid e;clear hD;refine wk ?_;exact ag _ _ _ (by omega) (CutL (b:=by simp)) ⟨j+1,z+1,_,_,rfl,hlt,hz2,hD2,rfl,rfl⟩
 ·have g1:¬ (j:Int)<5:=by omega
  have hj5:j=5:=by omega
  have hD2:D=aW bv:=by rw [hD.out,hj5];rfl
  have hz2:z=bv.length:=by rw [hz.out,hj5];rfl
  replace hD2:=hid hD2;replace hz2:=hid hz2;clear hz hD hj5;refine wk ?_;rw [hD2.out,hz2.out];refine aZ ?_;simp only [AV.frz,AV.frzL,LR];refine ab ?_ h.out;simp only [AV.refs,AV.refsL,N6,afD]
theorem Qf:LI bv:=by
 refine ⟨by decide,fun ty h=>?_,fun ty h=>?_⟩
 ·have:bv.all (fun t=>decide (t.1.length<=1000))=true:=by kernel_rfl
  have:=ael.1 this ty h;simp only [decide_eq_true_eq] at this;unfold am;omega
 ·have:bv.all (fun t=>decide (ef bv t.1=some t))=true:=by kernel_rfl
  simpa using ael.1 this ty h
theorem Ym:AV.frzL SS=SS:=by kernel_rfl
end Go.Proofs.YtigifoeopopnbaaGreatDoor.Av
set_option maxRecDepth 100000
namespace Go.Proofs.YtigifoeopopnbaaGreatDoor.Av
open Go
def zG:List ak :=
 [⟨(some 1),(.box (tm 0)),none⟩,⟨(some 2),(.mv (.av (.bool false))),none⟩]
def zF:List ak :=
 [⟨(some 3),(.faddr 0 (tm 1)),none⟩,⟨(some 4),(.load false 1 (tm 3)),none⟩,⟨(some 5),(.len false (tm 4)),none⟩,⟨(some 6),(.bin .leq (tm 5) (iv 128)),none⟩,
 ⟨(some 7),(.mv (tm 6)),none⟩,⟨(some 8),(.faddr 1 (tm 1)),(some (7,true))⟩,⟨(some 9),(.load false 1 (tm 8)),(some (7,true))⟩,⟨(some 10),(.len false (tm 9)),(some (7,true))⟩,
 ⟨(some 11),(.bin .leq (tm 10) (iv 40)),(some (7,true))⟩,⟨(some 12),(.pick (tm 7) (tm 11) (.av (.bool false))),none⟩,⟨(some 13),(.mv (tm 12)),none⟩,
 ⟨(some 14),(.load true 2 (tm 1)),(some (13,true))⟩,⟨(some 15),(.call 41 [(tm 14)]),(some (13,true))⟩,⟨(some 16),(.bin .eql (tm 15) (iv 0)),(some (13,true))⟩,
 ⟨(some 17),(.pick (tm 13) (tm 16) (.av (.bool false))),none⟩,⟨(some 2),(.mv (tm 17)),none⟩]
def o8:aV:=⟨18,(.seq (.region zG)
 (.seq (.region zF)
 .ret)),[(.tmp 2)]⟩
attribute [push_cast] zG zF
theorem OJ:aX Tryz.prog (fun _ _=>1) 17=some o8.raw:=by kernel_rfl
variable {L:List Blk} {K:aef}
set_option maxHeartbeats 8000000
set_option maxRecDepth 100000
def atN:List (List UInt8)->List UInt8->Nat->Int
 | [],_,_=>-1
 | a::l,n,i=>if aa a=aa n then (i:Int) else atN l n (i+1)
theorem RH {n:List UInt8}:∀ {l:List (List UInt8)} {i:Nat},atN l n i=-1\/((i:Int)<=atN l n i/\atN l n i<(i:Int)+(l.length:Int))
 | [],i=>.inl rfl
 | a::l,i=>by
   rw [atN];split
   ·right;simp;omega
   ·rcases @RH n l (i+1) with h|h
    ·exact .inl h
    ·right;simp only [aet];omega
theorem N0 {n:List UInt8}:∀ {l:List (List UInt8)} {i:Nat},atN l n i<0->∀ a∈l,aa a≠aa n
 | [],i,_,a,ha=>by cases ha
 | b::l,i,h,a,ha=>by
   rw [atN] at h;split at h
   ·omega
   ·rename_i hne
    rcases aex.1 ha with rfl|ha
    ·exact hne
    ·exact N0 h a ha
theorem Vl {ts:List Typ} {cap:Option Nat} {n:List UInt8} (hl:ts.length<=2000000) (hts:∀ t∈ts,am t.1) (hn:am n) (h:K (.int .i64 (atN (ts.map (·.1)) n 0)) L) :
  aee 37 [.sl (aW ts) ts.length cap,.str n] L K:=by
 obtain ⟨R,hR⟩:=aea (atN (ts.map (·.1)) n 0);rw [hR] at h;replace h:=hid h;replace hR:=hid hR;refine aed K1 ?_;refine ai (fun m T' L'=>∃ k:Nat,m=ts.length - k/\k<=ts.length/\Hid (atN ((ts.drop k).map (·.1)) n k=R)/\T'=[(8,.int .i64 (k:Int)),(7,.int .i64 ts.length),(0,.sl (aW ts) ts.length cap),(1,.str n)]/\L=L') (CutS (b:=aeg _)) ⟨0,rfl,aej _,hid (by simpa using hR.out),rfl,rfl⟩ ?_;rintro _ _ L' ⟨k,rfl,hk,hI,rfl,e⟩;subst e;by_cases hlt:k<ts.length
 ·have g1:(k:Int)<(ts.length:Int):=by omega
  have g2:=aec k (by omega);have e4:k * 4<(aW ts).length:=by rw [gG];omega
  have e3:(aW ts).getD (k * 4) .undef=.str (ts.getD k gk).1:=by
   have h3:=congrArg (fun l=>l[0]?) (ik hlt);simp only [ae1 (show 0<4 by omega),aeZ,afd] at h3;rw [aew,h3];rfl
  obtain ⟨ty,hty⟩:=aea (ts.getD k gk);have hm:am ty.1:=hts _ (by rw [<- hty];simp [hlt]);have hdr:ts.drop k=ty::ts.drop (k+1):=by rw [aeH hlt,<- hty];simp [hlt]
  have hI2:=hI.out;rw [hdr,aeG,atN] at hI2;rw [hty] at e3;clear hdr hty hI hR;by_cases hq:aa ty.1=aa n
  ·rw [if_pos hq] at hI2;have h':=h.out;rw [<- hI2] at h';replace h':=hid h';clear hI2;have kk1:=@hid _ (fun L K=>bg hm (L:=L) (K:=K));have kk2:=@hid _ (fun L K=>bg hn (L:=L) (K:=K));refine wk ?_;exact ac h'.out
  ·rw [if_neg hq] at hI2;replace hI2:=hid hI2;have kk1:=@hid _ (fun L K=>bg hm (L:=L) (K:=K));have kk2:=@hid _ (fun L K=>bg hn (L:=L) (K:=K));refine wk ?_;exact ag _ _ _ (by omega) (CutL (b:=by simp)) ⟨k+1,rfl,hlt,hI2,rfl,rfl⟩
 ·have hke:k=ts.length:=by omega
  subst hke;have g1:¬ (ts.length:Int)<(ts.length:Int):=by omega
  have hI2:=hI.out;rw [aeC,afN,atN] at hI2;have h':=h.out;rw [<- hI2] at h';replace h':=hid h';clear hI hI2 hR;refine wk ?_;exact ac h'.out
abbrev Cls:=List UInt8×List UInt8×Int×List (List UInt8)×List (List UInt8)
abbrev clC (c:Cls):List AV:=[.str c.1,.str c.2.1,.int .i64 c.2.2.1,iI c.2.2.2.1,iI c.2.2.2.2]
def bE (cs:List Cls):List AV:=cs.flatMap clC
theorem kK (cs:List Cls):(bE cs).length=cs.length * 5:=by
 induction cs with
 | nil=>rfl
 | cons a l ih=>simp only [bE,ae4,aeF,clC,aet,afk] at ih ⊢;omega
abbrev cC:Cls:=([],[],0,[],[])
theorem Il:∀ {cs:List Cls} {k:Nat},k<cs.length->((bE cs).drop (k * 5)).take 5=clC (cs.getD k cC)
 | a::l,0,_=>rfl
 | a::l,k+1,h=>by
   have ih:=@Il l k (by simpa using h);rw [show (k+1) * 5=k * 5+1+1+1+1+1 by omega];simpa [bE,clC] using ih
theorem NP {cs:List Cls} {k:Nat} (hk:k<cs.length) {j:Nat} (hj:j<5):(bE cs).getD (k * 5+j) .undef=(clC (cs.getD k cC)).getD j .undef:=by
 have h3:=congrArg (fun l=>l[j]?) (Il hk);simp only [ae1 hj,aeZ] at h3;rw [aew,h3];exact (aew ..).symm
theorem Yp (cs:List Cls) (i:Nat):(bE cs).take (i * 5)=bE (cs.take i):=by
 induction cs generalizing i with
 | nil=>simp [bE]
 | cons a l ih =>
   rcases i with _|i
   ·simp [bE]
   ·rw [show (i+1) * 5=i * 5+1+1+1+1+1 by omega];have:=ih i;simp only [bE,ae4,clC,aeT,aeR,afx] at this ⊢;rw [this]
theorem Xp (cs:List Typ) (i:Nat):(aW cs).take (i * 4)=aW (cs.take i):=by
 induction cs generalizing i with
 | nil=>simp [aW]
 | cons a l ih =>
   rcases i with _|i
   ·simp [aW]
   ·rw [show (i+1) * 4=i * 4+1+1+1+1 by omega];have:=ih i;simp only [aW,ae4,tyC,aeT,aeR,afx] at this ⊢;rw [this]
theorem TP {cs:List Cls} {cap:Option Nat} {n:List UInt8} (hl:cs.length<=2000000) (hts:∀ t∈cs,am t.1) (hn:am n) (h:K (.int .i64 (atN (cs.map (·.1)) n 0)) L) :
  aee 54 [.sl (bE cs) cs.length cap,.str n] L K:=by
 obtain ⟨R,hR⟩:=aea (atN (cs.map (·.1)) n 0);rw [hR] at h;replace h:=hid h;replace hR:=hid hR;refine aed Lv ?_;refine ai (fun m T' L'=>∃ k:Nat,m=cs.length - k/\k<=cs.length/\Hid (atN ((cs.drop k).map (·.1)) n k=R)/\T'=[(8,.int .i64 (k:Int)),(7,.int .i64 cs.length),(0,.sl (bE cs) cs.length cap),(1,.str n)]/\L=L') (CutS (b:=aeg _)) ⟨0,rfl,aej _,hid (by simpa using hR.out),rfl,rfl⟩ ?_;rintro _ _ L' ⟨k,rfl,hk,hI,rfl,e⟩;subst e;by_cases hlt:k<cs.length
 ·have g1:(k:Int)<(cs.length:Int):=by omega
  have g2:=aec k (by omega);have e4:k * 5<(bE cs).length:=by rw [kK];omega
  have e3:=NP hlt (j:=0) (by omega);obtain ⟨c,hc⟩:=aea (cs.getD k cC);have hm:am c.1:=hts _ (by rw [<- hc];simp [hlt]);have hdr:cs.drop k=c::cs.drop (k+1):=by rw [aeH hlt,<- hc];simp [hlt]
  have hI2:=hI.out;rw [hdr,aeG,atN] at hI2;rw [hc] at e3;simp only [afd,clC,aft] at e3;clear hdr hc hI hR;by_cases hq:aa c.1=aa n
  ·rw [if_pos hq] at hI2;have h':=h.out;rw [<- hI2] at h';replace h':=hid h';clear hI2;have kk1:=@hid _ (fun L K=>bg hm (L:=L) (K:=K));have kk2:=@hid _ (fun L K=>bg hn (L:=L) (K:=K));refine wk ?_;exact ac h'.out
  ·rw [if_neg hq] at hI2;replace hI2:=hid hI2;have kk1:=@hid _ (fun L K=>bg hm (L:=L) (K:=K));have kk2:=@hid _ (fun L K=>bg hn (L:=L) (K:=K));refine wk ?_;exact ag _ _ _ (by omega) (CutL (b:=by simp)) ⟨k+1,rfl,hlt,hI2,rfl,rfl⟩
 ·have hke:k=cs.length:=by omega
  subst hke;have g1:¬ (cs.length:Int)<(cs.length:Int):=by omega
  have hI2:=hI.out;rw [aeC,afN,atN] at hI2;have h':=h.out;rw [<- hI2] at h';replace h':=hid h';clear hI hI2 hR;refine wk ?_;exact ac h'.out
theorem Ww {n:List UInt8}:∀ {l:List (List UInt8)} {i k:Nat},atN l n i=((i+k:Nat):Int)->k<l.length/\aa (l.getD k [])=aa n
 | [],i,k,h=>by rw [atN] at h;omega
 | a::l,i,k,h=>by
   rw [atN] at h;split at h
   ·rename_i e
    obtain rfl:k=0:=by omega
    exact ⟨by simp,by simpa using e⟩
   ·rcases k with _|k
    ·have:=@RH n l (i+1);rw [h] at this;omega
    ·have:=@Ww n l (i+1) k (by rw [h];congr 1;omega);exact ⟨by simpa using this.1,by simpa using this.2⟩
def WF (cs:List Cls) (j:Nat):Prop:=il (cs.getD j cC).1=true/\(∀ c∈cs.take j,aa c.1≠aa (cs.getD j cC).1)/\((cs.getD j cC).2.1≠[]->∃ w,w<j/\aa (cs.getD w cC).1=aa (cs.getD j cC).2.1)
def jB (cs:List Cls):Prop:=∀ j,j<cs.length->WF cs j
def TX (ts:List Typ):Prop:=∀ i,i<ts.length->∀ t∈ts.take i,aa t.1≠aa (ts.getD i gk).1
theorem Yh {ts:List Typ} (h:TX ts):∀ ty∈ts,ef ts ty.1=some ty:=fun ty hty=>by
 obtain ⟨i,hi,rfl⟩:=aeU.1 hty;have e:ts.getD i gk=ts[i]:=by simp [hi]
 have:=gP (q:=fun t=>decide (aa t.1=aa ts[i].1)) (d:=gk) hi (fun j hj=>?_) (by rw [e];exact decide_eq_true rfl)
 ·rw [e] at this;exact this
 ·have h1:=h i hi (ts.getD j gk) (by
   rw [aeU];exact ⟨j,by simp;omega,by simp [show j<ts.length by omega]⟩)
  rw [e] at h1;exact decide_eq_false h1
theorem Zj {ts:List Typ} {cs:List Cls} {capT capC:Option Nat} (hl:ts.length<=2000000) (hlc:cs.length<=2000000) (hts:∀ t∈ts,am t.1) (hcs:∀ c∈cs,am c.1/\am c.2.1/\c.2.2.2.1.length<=2000000/\c.2.2.2.2.length<=2000000/\(∀ v∈c.2.2.2.1,am v)/\∀ v∈c.2.2.2.2,am v) {L:List Blk} {K:aef}
  (h:∀ z:Int,(z=0->TX ts/\jB cs)->K (.int .i64 z) L) :
  aee 41 [.agg [.sl (aW ts) ts.length capT,.sl (bE cs) cs.length capC]] L K:=by
 replace h:=hid h;replace hcs:=hid hcs;refine af Oy (by simp [oU]) ?_;simp only [oU,aq];by_cases h1:(128:Int)<(ts.length:Int)
 ·refine wk ?_;exact ab rfl (h.out 9 (fun e=>by cases e))
 by_cases h2:(128:Int)<(cs.length:Int)
 ·refine wk ?_;exact ab rfl (h.out 9 (fun e=>by cases e))
 refine wk ?_;obtain ⟨M,hM⟩:=aea (L++[Blk.cells [.sl (aW ts) ts.length capT,.sl (bE cs) cs.length capC]]);have hg:∀ X:List Blk,(M++X)[L.length]?=some (.cells [.sl (aW ts) ts.length capT,.sl (bE cs) cs.length capC]):=fun X=>by
  rw [<- hM,aeu,aes (aeg _),afn];rfl
 have hfin:∀ (z:Int),(z=0->TX ts/\jB cs)->∀ X:List Blk,Fin L (.int .i64 z) (M++X) K:=fun z hz X=>by
  rw [<- hM,aeu];exact ab rfl (h.out z hz)
 replace hfin:=hid hfin;rw [hM];have hMl:L.length<=M.length:=by rw [<- hM];simp
 clear hM h;refine ai (fun m T' L'=>∃ (i:Nat) (X:List Blk),m=ts.length - i/\i<=ts.length/\Hid (∀ j,j<i->∀ t∈ts.take j,aa t.1≠aa (ts.getD j gk).1)/\T'=[(24,.int .i64 (i:Int)),(23,.int .i64 ts.length),(22,.sl (aW ts) ts.length capT),(1,.ptr L.length 0)]/\L'=M++X) (CutS (b:=aeg _)) ⟨0,[],rfl,aej _,hid (fun j hj=>by omega),rfl,by simp⟩ ?_;rintro _ _ _ ⟨i,X,rfl,hi,hD,rfl,rfl⟩;by_cases hlt:i<ts.length
 ·have g1:(i:Int)<(ts.length:Int):=by omega
  have g1':(i:Int)<=(ts.length:Int):=by omega
  have g2:=aec i (by omega);have e3:=ik hlt;have e4:i * 4+4<=(aW ts).length:=by rw [gG];omega
  have e6:i * 4<=(aW ts).length:=by omega
  have e5:=Xp ts i;have e7:(ts.take i).length=i:=by simp;omega
  obtain ⟨ty,hty⟩:=aea (ts.getD i gk);have hm:am ty.1:=hts _ (by rw [<- hty];simp [hlt]);rw [hty] at e3;simp only [tyC] at e3;obtain ⟨z,hz⟩:=aea (atN ((ts.take i).map (·.1)) ty.1 0);have kk1:Hid (∀ {cap:Option Nat} {L:List Blk} {K:aef},K (.int .i64 z) L->aee 37 [.sl (aW (ts.take i)) i cap,.str ty.1] L K):=@hid _ (fun {cap} {L} {K} q=>by
   have:=Vl (ts:=ts.take i) (cap:=cap) (n:=ty.1) (by omega) (fun t ht=>hts t (af7 ht)) hm (L:=L) (K:=K) (by rw [hz];exact q);rw [e7] at this;exact this)
  have kk2:Hid (Ctr Tryz.prog 66 [.str ty.1] (.bool (il ty.1))):=hid fun q=>L5 hm q
  obtain ⟨tb,htb⟩:=aea (il ty.1);rw [htb] at kk2;have hD':¬ (0<=z)->∀ j,j<i+1->∀ t∈ts.take j,aa t.1≠aa (ts.getD j gk).1:=fun hzn j hj t ht=>by
   rcases aer j i with e|e
   ·exact hD.out j e t ht
   ·have:j=i:=by omega
    subst this;rw [hty];exact N0 (by rw [hz];omega) t.1 (aey.2 ⟨t,ht,rfl⟩)
  replace hD':=hid hD';clear hz hty htb e7 hD;cases tb with
  | false =>
    refine wk ?_;exact hfin.out 20 (fun e=>by cases e) _
  | true =>
    by_cases hz0:0<=z
    ·refine wk ?_;exact hfin.out 21 (fun e=>by cases e) _
    have hz1:z<0:=by omega
    by_cases hs1:ty.2.1<1
    ·refine wk ?_;exact hfin.out 23 (fun e=>by cases e) _
    by_cases hs2:8<ty.2.1
    ·refine wk ?_;exact hfin.out 23 (fun e=>by cases e) _
    have hs3:(1:Int)<=ty.2.1:=by omega
    have hs4:ty.2.1<=8:=by omega
    refine wk ?_;exact ag _ _ _ (by omega) (CutL (b:=by simp)) ⟨i+1,_,rfl,hlt,hid (hD'.out hz0),rfl,rfl⟩
 have hke:i=ts.length:=by omega
 subst hke;have g1:¬ (ts.length:Int)<(ts.length:Int):=by omega
 have hdist:TX ts:=hD.out;replace hdist:=hid hdist;clear hD;refine wk ?_;refine ai (fun m T' L'=>∃ (j:Nat) (Y:List Blk),m=cs.length - j/\j<=cs.length/\X.length<=Y.length/\Hid (∀ i,i<j->WF cs i)/\T'=[(53,.int .i64 (j:Int)),(52,.int .i64 cs.length),(51,.sl (bE cs) cs.length capC),(1,.ptr L.length 0)]/\L'=M++Y) (CutS (b:=by simp)) ⟨0,X,rfl,aej _,aeg _,hid (fun i hi=>by omega),rfl,rfl⟩ ?_;rintro _ _ _ ⟨j,Y,rfl,hj,hXY,hCS,rfl,rfl⟩;by_cases hlt:j<cs.length;rotate_left
 ·have hke:j=cs.length:=by omega
  subst hke;have g1:¬ (cs.length:Int)<(cs.length:Int):=by omega
  obtain ⟨z,hz⟩:=aea (atN (ts.map (·.1)) [111,98,106,101,99,116,99,108,97,115,115] 0);have kk1:Hid (Ctr Tryz.prog 37 [.sl (aW ts) ts.length capT,.str [111,98,106,101,99,116,99,108,97,115,115]] (.int .i64 z)):=hid fun q=>Vl hl hts (by unfold am;decide) (by rw [hz];exact q)
  have hbd:=@RH [111,98,106,101,99,116,99,108,97,115,115] (ts.map (·.1)) 0;rw [hz,aeS] at hbd;clear hz;by_cases hz0:z<0
  ·refine wk ?_;exact hfin.out 22 (fun e=>by cases e) _
  obtain ⟨w,rfl⟩:∃ w:Nat,z=(w:Int):=⟨z.toNat,by omega⟩;have hw:w<ts.length:=by omega
  have e3:=ik hw;have g5:(w:Int)<(ts.length:Int):=by omega
  have e4:w * 4+1<(aW ts).length:=by rw [gG];omega
  have e5:w * 4+2<(aW ts).length:=by rw [gG];omega
  obtain ⟨ty,hty⟩:=aea (ts.getD w gk);rw [hty] at e3;have e6:(aW ts).getD (w * 4+1) .undef=.int .i64 ty.2.1:=by
   have h3:=congrArg (fun l=>l[1]?) e3;simp only [ae1 (show 1<4 by omega),aeZ] at h3;rw [aew,h3];rfl
  have e7:(aW ts).getD (w * 4+2) .undef=.bool ty.2.2.1:=by
   have h3:=congrArg (fun l=>l[2]?) e3;simp only [ae1 (show 2<4 by omega),aeZ] at h3;rw [aew,h3];rfl
  clear e3 hty hbd;by_cases hs1:ty.2.1=3
  ·rcases hsg:ty.2.2.1 with _|_
   ·rw [hsg] at e7;refine wk ?_;exact hfin.out 0 (fun _=>⟨hdist.out,hCS.out⟩) _
   ·rw [hsg] at e7;refine wk ?_;exact hfin.out 2 (fun e=>by cases e) _
  ·refine wk ?_;exact hfin.out 2 (fun e=>by cases e) _
 have g1:(j:Int)<(cs.length:Int):=by omega
 have g1':(j:Int)<=(cs.length:Int):=by omega
 have g2:=aec j (by omega);have e3:=Il hlt;have e4:j * 5+5<=(bE cs).length:=by rw [kK];omega
 have e6:j * 5<=(bE cs).length:=by omega
 have e5:=Yp cs j;have e7:(cs.take j).length=j:=by simp;omega
 obtain ⟨⟨nm,sup,kd,must,may⟩,hcl⟩:∃ c,cs.getD j cC=c:=⟨_,rfl⟩;obtain ⟨r1,r2,r3,r4,r5,r6⟩:=hcs.out (nm,sup,kd,must,may) (by rw [<- hcl];simp [hlt]);simp only at r1 r2 r3 r4 r5 r6;rw [hcl] at e3;simp only [clC,iI] at e3;obtain ⟨z1,hz1⟩:=aea (atN ((cs.take j).map (·.1)) nm 0);obtain ⟨z2,hz2⟩:=aea (atN ((cs.take j).map (·.1)) sup 0);have kkC:∀ (n:List UInt8) (z:Int),am n->atN ((cs.take j).map (·.1)) n 0=z->∀ {cap:Option Nat} {L:List Blk} {K:aef},K (.int .i64 z) L->aee 54 [.sl (bE (cs.take j)) j cap,.str n] L K:=by
  intro n z hn hz cap L K q;have:=TP (cs:=cs.take j) (cap:=cap) (n:=n) (by omega) (fun t ht=>(hcs.out t (af7 ht)).1) hn (L:=L) (K:=K) (by rw [hz];exact q);rw [e7] at this;exact this
 have kk1:Hid (∀ {cap:Option Nat} {L:List Blk} {K:aef},K (.int .i64 z1) L->aee 54 [.sl (bE (cs.take j)) j cap,.str nm] L K):=@hid _ (fun {cap} {L} {K} q=>kkC nm z1 r1 hz1 q);have kk2:Hid (∀ {cap:Option Nat} {L:List Blk} {K:aef},K (.int .i64 z2) L->aee 54 [.sl (bE (cs.take j)) j cap,.str sup] L K):=@hid _ (fun {cap} {L} {K} q=>kkC sup z2 r2 hz2 q);obtain ⟨tb,htb⟩:=aea (il nm);have kk3:Hid (Ctr Tryz.prog 66 [.str nm] (.bool tb)):=hid fun q=>L5 r1 (by rw [htb];exact q)
 have hbd:=@RH sup ((cs.take j).map (·.1)) 0;rw [hz2,aeS,e7] at hbd;have hst:tb=true->¬ 0<=z1->(sup=[]\/0<=z2)->∀ i,i<j+1->WF cs i:=fun a1 a2 a3 i hi=>by
  rcases aer i j with e|e
  ·exact hCS.out i e
  ·obtain rfl:i=j:=by omega
   refine ⟨by rw [hcl,htb];exact a1,fun c hc=>?_,fun hne=>?_⟩
   ·rw [hcl];exact N0 (by rw [hz1];omega) c.1 (aey.2 ⟨c,hc,rfl⟩)
   ·rw [hcl] at hne ⊢;have h3:0<=z2:=a3.resolve_left hne;have h4:=@Ww sup ((cs.take i).map (·.1)) 0 z2.toNat (by rw [hz2];omega);have h5:z2.toNat<i:=by have:=h4.1;simp only [aeS,e7] at this;exact this
    refine ⟨z2.toNat,h5,?_⟩;have h6:=h4.2;simpa [h5,show z2.toNat<cs.length by omega] using h6
 replace hst:=hid hst;replace hbd:=hid hbd;have em:=cy must;have ey:=cy may;replace r5:=hid r5;replace r6:=hid r6;clear hz1 hz2 htb e7 hcl kkC hCS;cases tb with
 | false =>
   refine wk ?_;exact hfin.out 20 (fun e=>by cases e) _
 | true =>
 by_cases hz0:0<=z1
 ·refine wk ?_;exact hfin.out 21 (fun e=>by cases e) _
 by_cases k1:kd<0
 ·refine wk ?_;exact hfin.out 23 (fun e=>by cases e) _
 by_cases k2:2<kd
 ·refine wk ?_;exact hfin.out 23 (fun e=>by cases e) _
 obtain ⟨names,hnames⟩:=aea (must++may);have eC:List.map AV.str must++List.map AV.str may=List.map AV.str names:=by rw [<- hnames];simp
 have nl:must.length+may.length=names.length:=by rw [<- hnames];simp
 have nli:(must.length:Int)+(may.length:Int)=(names.length:Int):=by omega
 have eo:=NB may;have eb:names.length * 16<=140737488355328:=by omega
 have ec:names.length<=140737488355328:=by omega
 have hnr:∀ v∈names,am v:=fun v hv=>by
  rw [<- hnames,aeo] at hv;exact hv.elim (r5.out v) (r6.out v)
 replace hnr:=hid hnr;clear hnames;by_cases hsp:sup=[]
 ·subst hsp;by_cases k3:kd=0;rotate_left
  ·refine wk ?_;exact hfin.out 2 (fun e=>by cases e) _
  subst k3;refine wk ?_;refine ai (fun m T' L'=>∃ q:Nat,m=names.length - q/\q<=names.length/\T'=[(133,.int .i64 (q:Int)),(132,.int .i64 names.length),(131,.gsl (names.map AV.str) names.length (M.length+(Y.length+1)) 1),(53,.int .i64 (j:Int)),(52,.int .i64 cs.length),(51,.sl (bE cs) cs.length capC),(1,.ptr L.length 0)]/\L'=M++(Y++[.cells [.str nm,.str [],.int .i64 0,iI must,iI may],.spare names.length 1])) (CutS (b:=by simp)) ⟨0,rfl,aej _,rfl,rfl⟩ ?_;rintro _ _ _ ⟨q,rfl,hq,rfl,rfl⟩;clear kk1 kk2 kk3;by_cases hql:q<names.length
  ·have q1:(q:Int)<(names.length:Int):=by omega
   have q2:=aec q (by omega);obtain ⟨v,hv⟩:=aea (names.getD q []);have q3:(names.map AV.str).getD q .undef=.str v:=by rw [<- hv];simp [hql]
   have q4:q<names.length:=hql;have hvr:am v:=hnr.out v (by rw [<- hv];simp [hql]);obtain ⟨zv,hzv⟩:=aea (atN (ts.map (·.1)) v 0);have kk1:Hid (Ctr Tryz.prog 37 [.sl (aW ts) ts.length capT,.str v] (.int .i64 zv)):=@hid _ (fun {L} {K} q=>Vl hl hts hvr (by rw [hzv];exact q));clear hv hzv;by_cases hz:zv<0
   ·refine wk ?_;exact hfin.out 22 (fun e=>by cases e) _
   ·refine wk ?_;exact ag _ _ _ (by omega) (CutL (b:=by simp)) ⟨q+1,rfl,hql,rfl,rfl⟩
  ·have q1:¬ (q:Int)<(names.length:Int):=by omega
   refine wk ?_;exact ag _ _ _ (by omega) (CutL (b:=by simp;omega)) ⟨j+1,_,rfl,hlt,by simp;omega,hid (hst.out rfl hz0 (.inl rfl)),rfl,rfl⟩
 by_cases hz3:z2<0
 ·refine wk ?_;exact hfin.out 22 (fun e=>by cases e) _
 obtain ⟨w,rfl⟩:∃ w:Nat,z2=(w:Int):=⟨z2.toNat,by omega⟩;have hw:w<cs.length:=by have:=hbd.out;omega
 have w1:(w:Int)<(cs.length:Int):=by omega
 have w2:w * 5+2<(bE cs).length:=by rw [kK];omega
 have w3:=NP hw (j:=2) (by omega);obtain ⟨kw,hkw⟩:=aea ((cs.getD w cC).2.2.1);simp only [clC,aft,afS,hkw] at w3;by_cases k3:kw=0
 ·refine wk ?_;refine ai (fun m T' L'=>∃ q:Nat,m=names.length - q/\q<=names.length/\T'=[(133,.int .i64 (q:Int)),(132,.int .i64 names.length),(131,.gsl (names.map AV.str) names.length (M.length+(Y.length+1)) 1),(53,.int .i64 (j:Int)),(52,.int .i64 cs.length),(51,.sl (bE cs) cs.length capC),(1,.ptr L.length 0)]/\L'=M++(Y++[.cells [.str nm,.str sup,.int .i64 kd,iI must,iI may],.spare names.length 1])) (CutS (b:=by simp)) ⟨0,rfl,aej _,rfl,rfl⟩ ?_;rintro _ _ _ ⟨q,rfl,hq,rfl,rfl⟩;clear kk1 kk2 kk3;by_cases hql:q<names.length
  ·have q1:(q:Int)<(names.length:Int):=by omega
   have q2:=aec q (by omega);obtain ⟨v,hv⟩:=aea (names.getD q []);have q3:(names.map AV.str).getD q .undef=.str v:=by rw [<- hv];simp [hql]
   have q4:q<names.length:=hql;have hvr:am v:=hnr.out v (by rw [<- hv];simp [hql]);obtain ⟨zv,hzv⟩:=aea (atN (ts.map (·.1)) v 0);have kk1:Hid (Ctr Tryz.prog 37 [.sl (aW ts) ts.length capT,.str v] (.int .i64 zv)):=@hid _ (fun {L} {K} q=>Vl hl hts hvr (by rw [hzv];exact q));clear hv hzv;by_cases hz:zv<0
   ·refine wk ?_;exact hfin.out 22 (fun e=>by cases e) _
   ·refine wk ?_;exact ag _ _ _ (by omega) (CutL (b:=by simp)) ⟨q+1,rfl,hql,rfl,rfl⟩
  ·have q1:¬ (q:Int)<(names.length:Int):=by omega
   refine wk ?_;exact ag _ _ _ (by omega) (CutL (b:=by simp;omega)) ⟨j+1,_,rfl,hlt,by simp;omega,hid (hst.out rfl hz0 (.inr (by omega))),rfl,rfl⟩
 by_cases k4:kw=kd
 ·subst k4;refine wk ?_;refine ai (fun m T' L'=>∃ q:Nat,m=names.length - q/\q<=names.length/\T'=[(133,.int .i64 (q:Int)),(132,.int .i64 names.length),(131,.gsl (names.map AV.str) names.length (M.length+(Y.length+1)) 1),(53,.int .i64 (j:Int)),(52,.int .i64 cs.length),(51,.sl (bE cs) cs.length capC),(1,.ptr L.length 0)]/\L'=M++(Y++[.cells [.str nm,.str sup,.int .i64 kw,iI must,iI may],.spare names.length 1])) (CutS (b:=by simp)) ⟨0,rfl,aej _,rfl,rfl⟩ ?_;rintro _ _ _ ⟨q,rfl,hq,rfl,rfl⟩;clear kk1 kk2 kk3;by_cases hql:q<names.length
  ·have q1:(q:Int)<(names.length:Int):=by omega
   have q2:=aec q (by omega);obtain ⟨v,hv⟩:=aea (names.getD q []);have q3:(names.map AV.str).getD q .undef=.str v:=by rw [<- hv];simp [hql]
   have q4:q<names.length:=hql;have hvr:am v:=hnr.out v (by rw [<- hv];simp [hql]);obtain ⟨zv,hzv⟩:=aea (atN (ts.map (·.1)) v 0);have kk1:Hid (Ctr Tryz.prog 37 [.sl (aW ts) ts.length capT,.str v] (.int .i64 zv)):=@hid _ (fun {L} {K} q=>Vl hl hts hvr (by rw [hzv];exact q));clear hv hzv;by_cases hz:zv<0
   ·refine wk ?_;exact hfin.out 22 (fun e=>by cases e) _
   ·refine wk ?_;exact ag _ _ _ (by omega) (CutL (b:=by simp)) ⟨q+1,rfl,hql,rfl,rfl⟩
  ·have q1:¬ (q:Int)<(names.length:Int):=by omega
   refine wk ?_;exact ag _ _ _ (by omega) (CutL (b:=by simp;omega)) ⟨j+1,_,rfl,hlt,by simp;omega,hid (hst.out rfl hz0 (.inr (by omega))),rfl,rfl⟩
 ·refine wk ?_;exact hfin.out 2 (fun e=>by cases e) _
def ad9 (c:Cls):Prop:=am c.1/\am c.2.1/\c.2.2.2.1.length<=2000000/\c.2.2.2.2.length<=2000000/\(∀ v∈c.2.2.2.1,am v)/\∀ v∈c.2.2.2.2,am v
def ab4 (ts:List Typ) (cs:List Cls):Prop:=ts.length<=2000000/\cs.length<=2000000/\(∀ t∈ts,am t.1)/\∀ c∈cs,ad9 c
def adC (l:List Atr):Prop:=l.length<=2000000/\∀ a∈l,am a.1/\a.2.length<=2000000
theorem abd {ts:List Typ} {cs:List Cls} {capT capC:Option Nat} (hs:ab4 ts cs) (h:∀ b:Bool,(b=true->LI ts/\jB cs/\cs.length<=40)->K (.bool b) L) :
  aee 17 [.agg [.sl (aW ts) ts.length capT,.sl (bE cs) cs.length capC]] L K:=by
 replace h:=hid h;refine af OJ (by simp [o8]) ?_;simp only [o8,aq];by_cases h1:(ts.length:Int)<=128;rotate_left
 ·refine wk ?_;exact ab rfl (h.out false (fun e=>by cases e))
 by_cases h2:(cs.length:Int)<=40;rotate_left
 ·refine wk ?_;exact ab rfl (h.out false (fun e=>by cases e))
 refine wk ?_;refine Zj hs.1 hs.2.1 hs.2.2.1 hs.2.2.2 fun z hz=>?_
 by_cases hz0:z=0
 ·have hd:=hid (hz hz0);subst hz0;refine sk ?_;refine wk ?_;exact ab rfl (h.out true (fun _=>⟨⟨by omega,hs.2.2.1,Yh hd.out.1⟩,hd.out.2,by omega⟩))
 ·refine sk ?_;refine wk ?_;exact ab rfl (h.out false (fun e=>by cases e))
theorem UH:∀ l:List (List UInt8),l.map AV.str=l.flatMap fun s=>[AV.str s]
 | []=>rfl
 | a::l=>by rw [aeG,ae4,UH l];rfl
theorem Ti:RdU Tryz.prog 51 (fun l:List (List UInt8)=>[iI l]) (fun l=>l.length<=1048576/\∀ v∈l,v.length<=1048576):=by
 refine (pj Tryz.underlying51 (uj Tryz.underlying9) (by kernel_rfl)).map fun l hl=>⟨l,hl,?_⟩
 simp only [iI,UH l]
theorem acA:RdU Tryz.prog 73 tyC (fun ty=>ty.1.length<=1048576) :=
 (l6 Tryz.underlying73 (N:=4) (by kernel_rfl) (cO (sz:=1) rfl (by kernel_rfl) (uj Tryz.underlying9) (cO (sz:=1) rfl (by kernel_rfl) (Rd.u (Zg Tryz.underlying3)) (cO (sz:=1) rfl (by kernel_rfl) (Rd.u (WR Tryz.underlying4)) (cO (sz:=1) rfl (by kernel_rfl) (Rd.u (WR Tryz.underlying4)) (DM rfl)))))).map
  fun y hy=>⟨(y.1,y.2.1,y.2.2.1,y.2.2.2.1),hy.1,rfl⟩
theorem acC:RdU Tryz.prog 82 clC (fun c=>c.1.length<=1048576/\c.2.1.length<=1048576/\(c.2.2.2.1.length<=1048576/\∀ v∈c.2.2.2.1,v.length<=1048576)/\(c.2.2.2.2.length<=1048576/\∀ v∈c.2.2.2.2,v.length<=1048576)) :=
 (l6 Tryz.underlying82 (N:=5) (by kernel_rfl) (cO (sz:=1) rfl (by kernel_rfl) (uj Tryz.underlying9) (cO (sz:=1) rfl (by kernel_rfl) (uj Tryz.underlying9) (cO (sz:=1) rfl (by kernel_rfl) (Rd.u (Zg Tryz.underlying3)) (cO (sz:=1) rfl (by kernel_rfl) Ti (cO (sz:=1) rfl (by kernel_rfl) Ti (DM rfl))))))).map
  fun y hy=>⟨(y.1,y.2.1,y.2.2.1,y.2.2.2.1,y.2.2.2.2.1),⟨hy.1,hy.2.1,hy.2.2.2.1,hy.2.2.2.2.1⟩,rfl⟩
abbrev scA (s:List Typ×List Cls):List AV:=[.sl (aW s.1) s.1.length none,.sl (bE s.2) s.2.length none]
theorem rch {l:List UInt8} (h:l.length<=1048576):am l:=by unfold am;omega
theorem acB:RdU Tryz.prog 25 scA (fun s=>ab4 s.1 s.2) :=
 (l6 Tryz.underlying25 (N:=2) (by kernel_rfl) (cO (sz:=1) rfl (by kernel_rfl) (pj Tryz.underlying22 acA (by kernel_rfl)) (cO (sz:=1) rfl (by kernel_rfl) (pj Tryz.underlying23 acC (by kernel_rfl)) (DM rfl)))).map
  fun y hy=>⟨(y.1,y.2.1),⟨by have:=hy.1.1;simp only;omega,by have:=hy.2.1.1;simp only;omega,fun t ht=>rch (hy.1.2 t ht),fun c hc=>by
   obtain ⟨h1,h2,h3,h4⟩:=hy.2.1.2 c hc;exact ⟨rch h1,rch h2,by omega,by omega,fun v hv=>rch (h3.2 v hv),fun v hv=>rch (h4.2 v hv)⟩⟩,rfl⟩
theorem acE:RdU Tryz.prog 53 atA (fun a=>am a.1/\a.2.length<=1048576) :=
 (l6 Tryz.underlying53 (N:=2) (by kernel_rfl) (cO (sz:=1) rfl (by kernel_rfl) (uj Tryz.underlying9) (cO (sz:=1) rfl (by kernel_rfl) Ti (DM rfl)))).map
  fun y hy=>⟨(y.1,y.2.1),⟨rch hy.1,hy.2.1.1⟩,rfl⟩
theorem acD:RdU Tryz.prog 28 (fun l=>[.sl (bh l) l.length none]) adC :=
 (pj Tryz.underlying28 acE (by kernel_rfl)).map fun l hl=>⟨l,⟨by have:=hl.1;omega,fun a ha=>⟨(hl.2 a ha).1,by have:=(hl.2 a ha).2;omega⟩⟩,rfl⟩
end Go.Proofs.YtigifoeopopnbaaGreatDoor.Av
