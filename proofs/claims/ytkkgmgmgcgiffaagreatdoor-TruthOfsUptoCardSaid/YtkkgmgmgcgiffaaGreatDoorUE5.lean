/- Joined texts of the walk, made small by a program. -/
import Derived.Test.YtkkgmgmgcgiffaaGreatDoorUP4
import Derived.Test.YtkkgmgmgcgiffaaGreatDoorRows
import Derived.KernelRfl
import Derived.Test.YtkkgmgmgcgiffaaGreatDoorUE4
import Derived.Test.YtkkgmgmgcgiffaaGreatDoorUE2
import Derived.Test.YtkkgmgmgcgiffaaGreatDoorUE3
set_option linter.unusedSimpArgs false
set_option linter.unusedVariables false
set_option maxRecDepth 100000
namespace Go.Proofs.YtkkgmgmgcgiffaaGreatDoor.Av
open Go
def sV:LSO:=[Am 6]
def sU:LSO:=[Aa 9 2,An 10 9,Ab 11 0]
def sT:LSO:=[Ak 12 11 10]
def sS:LSO:=[Aq 13 1 9 11,Ad 14 1 13,Aa 8 14]
def sR:LSO:=[Aa 15 0,Aa 16 8,Aa 17 1,o1 18 (.build [(.str []),(.int .i64 0),(.bool false),(.bool false)] [(0,(1,(tm 16))),(1,(1,(tm 17)))]),BP 19 18,BQ 20 15 19,
 Aa 0 20]
def sQ:LSO:=[Ah 21 11 1,Aa 11 21]
def sP:LSO:=[Aa 22 0,Aa 6 22]
def mF:aW:=⟨23,(.seq (.sreg sV [])
 (.seq (.seq (.sreg sU [])
 (.block 0 (.loop (.seq (.sreg sT [])
 (.seq (.cond (tm 12) .skip
 (.exit 0))
 (.seq (.block 1 (.seq (.sreg sS Ch)
 (.sreg sR Cl)))
 (.sreg sQ Cg)))))))
 (.seq (.sreg sP Cg)
 .ret))),[(.tmp 6)]⟩
attribute [push_cast] sV sU sT sS sR sQ sP
theorem J4:bb Tryz.prog (fun _ _=>1) 104=some mF.raw:=by kernel_rfl
def xT:LSO:=[o1 0 (.alloc [(.sl [] 0 (some 0)),(.sl [] 0 (some 0))])]
def xS:LSO:=[o1 1 (.alloc [(.sl [] 0 (some 0)),(.sl [] 0 (some 0))])]
def xR:LSO:=[Ac 5 0 1,Ad 6 1 5,o1 7 (.bslice false 1 1 [(.str [])] [(0,(1,(.av (.str [111,98,106,101,99,116,67,108,97,115,115]))))]),Bx 8 104 6 3 7,Ac 9 0 1,Ai 1 9 8]
def xQ:LSO:=[Ac 10 0 1,Ad 11 1 10,
 o1 12 (.bslice false 1 4 [(.str []),(.str []),(.str []),(.str [])] [(0,(1,(.av (.str [99,110])))),(1,(1,(.av (.str [115,110])))),(2,(1,(.av (.str [111,117])))),(3,(1,(.av (.str [111]))))]),
 Bx 13 104 11 1 12,Ac 14 0 1,Ai 1 14 13]
def xP:LSO:=[Ac 15 0 1,Ad 16 1 15,
 o1 17 (.bslice false 1 3 [(.str []),(.str []),(.str [])] [(0,(1,(.av (.str [100,99])))),(1,(1,(.av (.str [117,105,100])))),(2,(1,(.av (.str [109,97,105,108]))))]),
 Bx 18 104 16 3 17,Ac 19 0 1,Ai 1 19 18]
def xO:LSO:=[Ac 20 0 1,Ad 21 1 20,B7 22,Bx 23 104 21 1 22,Ac 24 0 1,Ai 1 24 23]
def xN:LSO:=[Ac 25 0 1,Ad 26 1 25,o1 27 (.bslice false 1 1 [(.str [])] [(0,(1,(.av (.str [109,101,109,98,101,114]))))]),Bx 28 104 26 6 27,Ac 29 0 1,Ai 1 29 28]
def xM:LSO:=[Ac 30 0 1,Ad 31 1 30,o1 32 (.bslice false 1 1 [(.str [])] [(0,(1,(.av (.str [117,115,101,114,80,97,115,115,119,111,114,100]))))]),Bx 33 104 31 7 32,
 Ac 34 0 1,Ai 1 34 33]
def xL:LSO:=[Ac 35 0 1,Ad 36 1 35,
 o1 37 (.build [(.str []),(.int .i64 0),(.bool false),(.bool false)] [(0,(1,(.av (.str [101,109,112,108,111,121,101,101,78,117,109,98,101,114])))),(1,(1,(iv 4))),(2,(1,(.av (.bool true))))]),
 BP 38 37,BQ 39 36 38,Ac 40 0 1,Ai 1 40 39]
def xK:LSO:=[Ac 41 0 1,Ad 42 1 41,
 o1 43 (.build [(.str []),(.int .i64 0),(.bool false),(.bool false)] [(0,(1,(.av (.str [97,99,116,105,118,101])))),(1,(1,(iv 5))),(2,(1,(.av (.bool true))))]),BP 44 43,
 BQ 45 42 44,Ac 46 0 1,Ai 1 46 45]
def tz:LSO:=[o1 47 (.bslice false 1 5 [(.str []),(.str []),(.str []),(.str []),(.str [])] [(0,(1,(.av (.str [99,114,101,97,116,101,100,65,116])))),(1,(1,(.av (.str [99,104,97,110,103,101,100,65,116])))),(2,(1,(.av (.str [112,119,100,70,97,105,108,117,114,101])))),(3,(1,(.av (.str [112,119,100,76,111,99,107,101,100])))),(4,(1,(.av (.str [112,119,100,67,104,97,110,103,101,100]))))]),
 An 48 47,Ab 49 0]
def tw:LSO:=[Ak 50 49 48]
def tv:LSO:=[Aq 51 1 47 49,Ad 52 1 51,Aa 3 52]
def tu:LSO:=[Aa 53 3,
 o1 54 (.build [(.str []),(.int .i64 0),(.bool false),(.bool false)] [(0,(1,(tm 53))),(1,(1,(iv 4))),(2,(1,(.av (.bool true)))),(3,(1,(.av (.bool true))))]),Bo 4,Ai 4 4 54]
def tt:LSO:=[Aa 55 3,o1 56 (.bin .eql (tm 55) (.av (.str [112,119,100,70,97,105,108,117,114,101])))]
def tq:LSO:=[Ac 57 1 4,Bd 1 57 3]
def tn:LSO:=[Ac 58 2 4,o0 (.store 1 (tm 58) (.av (.bool false)))]
def tl:LSO:=[Ac 59 0 1,Ad 60 1 59,Ap 61 4 4,BP 62 61,BQ 63 60 62,Ac 64 0 1,Ai 1 64 63]
def tj:LSO:=[Ah 65 49 1,Aa 49 65]
def ti:LSO:=[Ac 66 1 1,Ad 67 1 66,o1 68 (.bslice false 1 1 [(.str [])] [(0,(1,(.av (.str [111,98,106,101,99,116,67,108,97,115,115]))))]),
 o1 69 (.bslice false 1 5 [(.str []),(.str []),(.str []),(.str []),(.str [])] [(0,(1,(.av (.str [99,114,101,97,116,101,100,65,116])))),(1,(1,(.av (.str [99,104,97,110,103,101,100,65,116])))),(2,(1,(.av (.str [112,119,100,70,97,105,108,117,114,101])))),(3,(1,(.av (.str [112,119,100,76,111,99,107,101,100])))),(4,(1,(.av (.str [112,119,100,67,104,97,110,103,101,100]))))]),
 o1 70 (.build [(.str []),(.str []),(.int .i64 0),(.sl [] 0 (some 0)),(.sl [] 0 (some 0))] [(0,(1,(.av (.str [116,111,112])))),(3,(1,(tm 68))),(4,(1,(tm 69)))]),Be 71 70,
 Bf 72 67 71,Ac 73 1 1,Ai 1 73 72]
def th:LSO:=[Ac 74 1 1,Ad 75 1 74,o1 76 (.bslice false 1 1 [(.str [])] [(0,(1,(.av (.str [100,99]))))]),B7 77,
 o1 78 (.build [(.str []),(.str []),(.int .i64 0),(.sl [] 0 (some 0)),(.sl [] 0 (some 0))] [(0,(1,(.av (.str [100,111,109,97,105,110])))),(1,(1,(.av (.str [116,111,112])))),(2,(1,(iv 1))),(3,(1,(tm 76))),(4,(1,(tm 77)))]),
 Be 79 78,Bf 80 75 79,Ac 81 1 1,Ai 1 81 80]
def tf:LSO:=[Ac 82 1 1,Ad 83 1 82,o1 84 (.bslice false 1 1 [(.str [])] [(0,(1,(.av (.str [111]))))]),B7 85,
 o1 86 (.build [(.str []),(.str []),(.int .i64 0),(.sl [] 0 (some 0)),(.sl [] 0 (some 0))] [(0,(1,(.av (.str [111,114,103,97,110,105,122,97,116,105,111,110])))),(1,(1,(.av (.str [116,111,112])))),(2,(1,(iv 1))),(3,(1,(tm 84))),(4,(1,(tm 85)))]),
 Be 87 86,Bf 88 83 87,Ac 89 1 1,Ai 1 89 88]
def td:LSO:=[Ac 90 1 1,Ad 91 1 90,o1 92 (.bslice false 1 1 [(.str [])] [(0,(1,(.av (.str [111,117]))))]),B7 93,
 o1 94 (.build [(.str []),(.str []),(.int .i64 0),(.sl [] 0 (some 0)),(.sl [] 0 (some 0))] [(0,(1,(.av (.str [111,114,103,97,110,105,122,97,116,105,111,110,97,108,85,110,105,116])))),(1,(1,(.av (.str [116,111,112])))),(2,(1,(iv 1))),(3,(1,(tm 92))),(4,(1,(tm 93)))]),
 Be 95 94,Bf 96 91 95,Ac 97 1 1,Ai 1 97 96]
def tc:LSO:=[Ac 98 1 1,Ad 99 1 98,o1 100 (.bslice false 1 2 [(.str []),(.str [])] [(0,(1,(.av (.str [99,110])))),(1,(1,(.av (.str [115,110]))))]),
 o1 101 (.bslice false 1 2 [(.str []),(.str [])] [(0,(1,(.av (.str [100,101,115,99,114,105,112,116,105,111,110])))),(1,(1,(.av (.str [117,115,101,114,80,97,115,115,119,111,114,100]))))]),
 o1 102 (.build [(.str []),(.str []),(.int .i64 0),(.sl [] 0 (some 0)),(.sl [] 0 (some 0))] [(0,(1,(.av (.str [112,101,114,115,111,110])))),(1,(1,(.av (.str [116,111,112])))),(2,(1,(iv 1))),(3,(1,(tm 100))),(4,(1,(tm 101)))]),
 Be 103 102,Bf 104 99 103,Ac 105 1 1,Ai 1 105 104]
def ta:LSO:=[Ac 106 1 1,Ad 107 1 106,
 o1 108 (.bslice false 1 4 [(.str []),(.str []),(.str []),(.str [])] [(0,(1,(.av (.str [117,105,100])))),(1,(1,(.av (.str [109,97,105,108])))),(2,(1,(.av (.str [101,109,112,108,111,121,101,101,78,117,109,98,101,114])))),(3,(1,(.av (.str [97,99,116,105,118,101]))))]),
 o1 109 (.build [(.str []),(.str []),(.int .i64 0),(.sl [] 0 (some 0)),(.sl [] 0 (some 0))] [(0,(1,(.av (.str [105,110,101,116,80,101,114,115,111,110])))),(1,(1,(.av (.str [112,101,114,115,111,110])))),(2,(1,(iv 1))),(4,(1,(tm 108)))]),
 Be 110 109,Bf 111 107 110,Ac 112 1 1,Ai 1 112 111]
def sZ:LSO:=[Ac 113 1 1,Ad 114 1 113,o1 115 (.bslice false 1 2 [(.str []),(.str [])] [(0,(1,(.av (.str [99,110])))),(1,(1,(.av (.str [109,101,109,98,101,114]))))]),
 B7 116,
 o1 117 (.build [(.str []),(.str []),(.int .i64 0),(.sl [] 0 (some 0)),(.sl [] 0 (some 0))] [(0,(1,(.av (.str [103,114,111,117,112])))),(1,(1,(.av (.str [116,111,112])))),(2,(1,(iv 1))),(3,(1,(tm 115))),(4,(1,(tm 116)))]),
 Be 118 117,Bf 119 114 118,Ac 120 1 1,Ai 1 120 119]
def sY:LSO:=[Ac 121 1 1,Ad 122 1 121,o1 123 (.bslice false 1 1 [(.str [])] [(0,(1,(.av (.str [117,115,101,114,80,97,115,115,119,111,114,100]))))]),
 o1 124 (.build [(.str []),(.str []),(.int .i64 0),(.sl [] 0 (some 0)),(.sl [] 0 (some 0))] [(0,(1,(.av (.str [115,101,99,117,114,101,100])))),(1,(1,(.av (.str [116,111,112])))),(2,(1,(iv 2))),(3,(1,(tm 123)))]),
 Be 125 124,Bf 126 122 125,Ac 127 1 1,Ai 1 127 126]
def sX:LSO:=[Ac 128 1 1,Ad 129 1 128,o1 130 (.bslice false 1 2 [(.str []),(.str [])] [(0,(1,(.av (.str [117,105,100])))),(1,(1,(.av (.str [109,97,105,108]))))]),
 o1 131 (.build [(.str []),(.str []),(.int .i64 0),(.sl [] 0 (some 0)),(.sl [] 0 (some 0))] [(0,(1,(.av (.str [108,97,98,101,108,108,101,100])))),(1,(1,(.av (.str [116,111,112])))),(2,(1,(iv 2))),(4,(1,(tm 130)))]),
 Be 132 131,Bf 133 129 132,Ac 134 1 1,Ai 1 134 133]
def sW:LSO:=[Ap 135 2 1,Ai 2 0 135]
def rz:aW:=⟨136,(.seq (.sreg xT [])
 (.seq (.sreg xS [])
 (.seq (.sreg xR Cy)
 (.seq (.sreg xQ Cy)
 (.seq (.sreg xP Cy)
 (.seq (.sreg xO Cy)
 (.seq (.sreg xN Cy)
 (.seq (.sreg xM Cy)
 (.seq (.sreg xL CC)
 (.seq (.sreg xK CC)
 (.seq (.seq (.sreg tz [])
 (.block 0 (.loop (.seq (.sreg tw [])
 (.seq (.cond (tm 50) .skip
 (.exit 0))
 (.seq (.block 1 (.seq (.sreg tv Ch)
 (.seq (.sreg tu Ch)
 (.seq (.seq (.sreg tt Cg)
 (.cond (tm 56) (.seq (.sreg tq Cr)
 (.sreg tn Cr))
 .skip))
 (.sreg tl CC)))))
 (.sreg tj Cg)))))))
 (.seq (.sreg ti C2)
 (.seq (.sreg th C2)
 (.seq (.sreg tf C2)
 (.seq (.sreg td C2)
 (.seq (.sreg tc C2)
 (.seq (.sreg ta Cu)
 (.seq (.sreg sZ C2)
 (.seq (.sreg sY Cu)
 (.seq (.sreg sX Cu)
 (.seq (.sreg sW Cr)
 .ret))))))))))))))))))))),[(.cell true 2 0)]⟩
attribute [push_cast] xT xS xR xQ xP xO xN xM xL xK tz tw tv tu tt tq tn tl tj ti th tf td tc ta sZ sY sX sW
theorem Ll:bb Tryz.prog (fun _ _=>1) 58=some rz.raw:=by kernel_rfl
variable {L:List Blk} {K:AV→List Blk→Prop}
set_option maxHeartbeats 8000000
set_option maxRecDepth 1000000
abbrev tnC (syn:Int) (nm:List UInt8):List AV:=[.str nm,.int .i64 syn,.bool false,.bool false]
theorem Sh {α:Type} {L:List α} {p:Nat} {b:α} (h:L[p]?=some b):L.set p b=L:=by
 apply List.ext_getElem?
 intro i
 rw [List.getElem?_set]
 split
 · rename_i e;subst e
   rw [h,if_pos (List.getElem?_eq_some_iff.1 h).1]
 · rfl
theorem VB {C:List AV} {n p:Nat} {syn:Int} {names:List (List UInt8)} {cap:Option Nat} (hn:n+names.length≤1100000) (hp:L[p]?=some (.spare n 4))
   (h:K (.gsl (C++names.flatMap (tnC syn)) (n+names.length) p 4) (L.set p (.spare (n+names.length) 4))) :
   ad Tryz.prog 104 [.gsl C n p 4,.int .i64 syn,.sl (names.map AV.str) names.length cap] L K:=by
 have hpl:p<L.length:=(List.getElem?_eq_some_iff.1 hp).1
 have hset:∀ b,(L.set p b)[p]?=some b:=fun b=>by simp [hpl]
 replace h:=hid h
 refine ae J4 (by simp [mF]) ?_
 simp only [mF,ar]
 refine wk ?_
 refine am (fun m T' L'=>∃ (j z:Nat) (D:List AV) (M:List Blk),m=names.length - j∧j≤names.length∧z=n+j∧Hid (D=C++(names.take j).flatMap (tnC syn))∧Hid (M=L.set p (.spare z 4))∧T'=[(11,.int .i64 (j:Int)),(10,.int .i64 names.length),(9,.sl (names.map AV.str) names.length cap),(0,.gsl D z p 4),(1,.int .i64 syn)]∧M=L') (CutS (b:=Nat.le_refl _)) ⟨0,n,C,L,rfl,Nat.zero_le _,rfl,hid (by simp),hid (Sh hp).symm,rfl,rfl⟩ ?_
 rintro _ _ _ ⟨j,z,D,M,rfl,hj,hz,hD,hM,rfl,rfl⟩
 by_cases hlt:j<names.length
 · have g1:(j:Int)<(names.length:Int):=by omega
   have g2:IntKind.i64.wrap ((j:Int)+1)=(j:Int)+1:=ac (by omega) (by omega)
   obtain ⟨x,hx⟩:∃ x,names.getD j []=x:=⟨_,rfl⟩
   have j3:(names.map AV.str).getD j .undef=.str x:=by rw [← hx];simp [hlt]
   have htk:names.take (j+1)=names.take j++[x]:=by rw [List.take_succ_eq_append_getElem hlt,← hx];simp [hlt]
   have hMp:M[p]?=some (.spare z 4):=by rw [hM.out];exact hset _
   have hD2:D++[.str x,.int .i64 syn,.bool false,.bool false]=C++(names.take (j+1)).flatMap (tnC syn):=by rw [hD.out,htk];simp
   have hM2:M.set p (.spare (z+1) 4)=L.set p (.spare (z+1) 4):=by rw [hM.out,List.set_set]
   have hMl:M.length=L.length:=by rw [hM.out];simp
   replace hD2:=hid hD2
   replace hM2:=hid hM2
   have hz1:z+1≤1100000:=by omega
   have hz2:z+1=n+(j+1):=by omega
   replace hz2:=hid hz2
   clear hx htk hD hM hset hz
   refine wk ?_
   exact ak _ _ _ (by omega) (CutL (b:=by simp;omega)) ⟨j+1,z+1,_,_,rfl,hlt,hz2.out,hD2,hM2,rfl,rfl⟩
 · have hke:j=names.length:=by omega
   subst hke
   have g1:¬ (names.length:Int)<(names.length:Int):=by omega
   have hD2:=hD.out
   have hM2:=hM.out
   rw [List.take_length] at hD2
   subst hD2 hz
   rw [hM2] at *
   clear hD hM hM2
   refine wk ?_
   exact aa h.out
def bH:List Typ:=[([111,98,106,101,99,116,67,108,97,115,115],3,false,false),([99,110],1,false,false),([115,110],1,false,false),([111,117],1,false,false),([111],1,false,false),([100,99],3,false,false),([117,105,100],3,false,false),([109,97,105,108],3,false,false),([100,101,115,99,114,105,112,116,105,111,110],1,false,false),([109,101,109,98,101,114],6,false,false),([117,115,101,114,80,97,115,115,119,111,114,100],7,false,false),([101,109,112,108,111,121,101,101,78,117,109,98,101,114],4,true,false),([97,99,116,105,118,101],5,true,false),([99,114,101,97,116,101,100,65,116],4,true,true),([99,104,97,110,103,101,100,65,116],4,true,true),([112,119,100,70,97,105,108,117,114,101],3,false,true),([112,119,100,76,111,99,107,101,100],4,true,true),([112,119,100,67,104,97,110,103,101,100],4,true,true)]
def P5:List AV:=[.str [116,111,112],.str [],.int .i64 0,.sl [.str [111,98,106,101,99,116,67,108,97,115,115]] 1 none,.sl [.str [99,114,101,97,116,101,100,65,116],.str [99,104,97,110,103,101,100,65,116],.str [112,119,100,70,97,105,108,117,114,101],.str [112,119,100,76,111,99,107,101,100],.str [112,119,100,67,104,97,110,103,101,100]] 5 none,.str [100,111,109,97,105,110],.str [116,111,112],.int .i64 1,.sl [.str [100,99]] 1 none,.sl [.str [100,101,115,99,114,105,112,116,105,111,110]] 1 none,.str [111,114,103,97,110,105,122,97,116,105,111,110],.str [116,111,112],.int .i64 1,.sl [.str [111]] 1 none,.sl [.str [100,101,115,99,114,105,112,116,105,111,110]] 1 none,.str [111,114,103,97,110,105,122,97,116,105,111,110,97,108,85,110,105,116],.str [116,111,112],.int .i64 1,.sl [.str [111,117]] 1 none,.sl [.str [100,101,115,99,114,105,112,116,105,111,110]] 1 none,.str [112,101,114,115,111,110],.str [116,111,112],.int .i64 1,.sl [.str [99,110],.str [115,110]] 2 none,.sl [.str [100,101,115,99,114,105,112,116,105,111,110],.str [117,115,101,114,80,97,115,115,119,111,114,100]] 2 none,.str [105,110,101,116,80,101,114,115,111,110],.str [112,101,114,115,111,110],.int .i64 1,.sl [] 0 none,.sl [.str [117,105,100],.str [109,97,105,108],.str [101,109,112,108,111,121,101,101,78,117,109,98,101,114],.str [97,99,116,105,118,101]] 4 none,.str [103,114,111,117,112],.str [116,111,112],.int .i64 1,.sl [.str [99,110],.str [109,101,109,98,101,114]] 2 none,.sl [.str [100,101,115,99,114,105,112,116,105,111,110]] 1 none,.str [115,101,99,117,114,101,100],.str [116,111,112],.int .i64 2,.sl [.str [117,115,101,114,80,97,115,115,119,111,114,100]] 1 none,.sl [] 0 none,.str [108,97,98,101,108,108,101,100],.str [116,111,112],.int .i64 2,.sl [] 0 none,.sl [.str [117,105,100],.str [109,97,105,108]] 2 none]
theorem wT:∀ ts:List Typ,AV.frzL (bc ts)=bc ts
 | []=>rfl
 | ty::ts=>by
   rw [show bc (ty::ts)=tyC ty++bc ts from rfl]
   simp only [tyC,List.cons_append,List.nil_append,AV.frzL,AV.frz,wT ts]
theorem NL (p:Nat→Bool):∀ ts:List Typ,AV.refsL p (bc ts)=true
 | []=>rfl
 | ty::ts=>by
   rw [show bc (ty::ts)=tyC ty++bc ts from rfl]
   simp only [tyC,List.cons_append,List.nil_append,AV.refsL,AV.refs,NL p ts,Bool.and_self]
theorem XT {P:Program} {N:Nat} {own:Nat→Nat→Nat} {Q:Exit→Tm→List Blk→Prop} {T:Tm} {lc:cm} {L L':List Blk} (e:L=L') (h:AW P N own lc Q T L'):AW P N own lc Q T L:=e ▸ h
theorem Xz (h:K (.agg [.sl (bc bH) bH.length none,.sl P5 9 none]) L):ad Tryz.prog 58 [] L K:=by
 have st:∀ (a:Nat) (syn:Int) (ns:List (List UInt8)) (b:Nat),bc (bH.take a)++ns.flatMap (tnC syn)=bc (bH.take b)→a+ns.length=b→b≤100→∀ K:AV→List Blk→Prop,K (.gsl (bc (bH.take b)) b (L.length+2) 4) (L++[.cells [.sl [] 0 (some 0),.sl [] 0 (some 0)],.cells [.gsl (bc (bH.take a)) a (L.length+2) 4,.gsl [] 0 (L.length+3) 5],.spare b 4,.spare 0 5])→ad Tryz.prog 104 [.gsl (bc (bH.take a)) a (L.length+2) 4,.int .i64 syn,.sl (ns.map AV.str) ns.length (some ns.length)] (L++[.cells [.sl [] 0 (some 0),.sl [] 0 (some 0)],.cells [.gsl (bc (bH.take a)) a (L.length+2) 4,.gsl [] 0 (L.length+3) 5],.spare a 4,.spare 0 5]) K:=fun a syn ns b h1 h2 h3 K q=>by
   refine VB (by omega) (by simp) ?_
   rw [h1,h2,List.set_append_right _ _ (by omega),show L.length+2 - L.length=2 by omega]
   exact q
 have s1:=st 0 3 [[111,98,106,101,99,116,67,108,97,115,115]] 1 rfl rfl (by omega)
 have s2:=st 1 1 [[99,110],[115,110],[111,117],[111]] 5 rfl rfl (by omega)
 have s3:=st 5 3 [[100,99],[117,105,100],[109,97,105,108]] 8 rfl rfl (by omega)
 have s4:=st 8 1 [[100,101,115,99,114,105,112,116,105,111,110]] 9 rfl rfl (by omega)
 have s5:=st 9 6 [[109,101,109,98,101,114]] 10 rfl rfl (by omega)
 have s6:=st 10 7 [[117,115,101,114,80,97,115,115,119,111,114,100]] 11 rfl rfl (by omega)
 clear st
 obtain ⟨C1,h1⟩:∃ C,bc (bH.take 1)=C:=⟨_,rfl⟩
 obtain ⟨C5,h5⟩:∃ C,bc (bH.take 5)=C:=⟨_,rfl⟩
 obtain ⟨C8,h8⟩:∃ C,bc (bH.take 8)=C:=⟨_,rfl⟩
 obtain ⟨C9,h9⟩:∃ C,bc (bH.take 9)=C:=⟨_,rfl⟩
 obtain ⟨C10,h10⟩:∃ C,bc (bH.take 10)=C:=⟨_,rfl⟩
 obtain ⟨C11,h11⟩:∃ C,bc (bH.take 11)=C:=⟨_,rfl⟩
 rw [show bc (bH.take 0)=[] from rfl] at s1
 rw [h1] at s1 s2
 rw [h5] at s2 s3
 rw [h8] at s3 s4
 rw [h9] at s4 s5
 rw [h10] at s5 s6
 rw [h11] at s6
 simp only [List.map_cons,List.map_nil,List.length_cons,List.length_nil,Nat.zero_add,Nat.reduceAdd] at s1 s2 s3 s4 s5 s6
 have kk1:=@hid _ (fun {K:AV→List Blk→Prop}=>s1 K)
 have kk2:=@hid _ (fun {K:AV→List Blk→Prop}=>s2 K)
 have kk3:=@hid _ (fun {K:AV→List Blk→Prop}=>s3 K)
 have kk4:=@hid _ (fun {K:AV→List Blk→Prop}=>s4 K)
 have kk5:=@hid _ (fun {K:AV→List Blk→Prop}=>s5 K)
 have kk6:=@hid _ (fun {K:AV→List Blk→Prop}=>s6 K)
 clear s1 s2 s3 s4 s5 s6
 clear h1 h5 h8 h9 h10
 replace h11:=hid h11
 replace h:=hid h
 refine ae Ll (by simp [rz]) ?_
 simp only [rz,ar]
 iterate 6 first
   | refine a8 ?_
   | (first|refine aP (by kernel_rfl) ?_|refine aB (by kernel_rfl) ?_|refine aC ?_|refine bj ?_|refine aX (fun _=>?_)|refine ay ?_|refine aS ?_)
     simp (config:={ maxSteps:=2000000 }) only [Kon,push_cast,reduceIte,Nat.reduceEqDiff,Nat.reduceAdd,Nat.reduceMul,Nat.reduceSub,Nat.reduceLT,Nat.reduceLeDiff,Int.reduceLT,Int.reduceLE,Int.reduceAdd,Int.reduceSub,Int.reduceNeg,Int.reduceToNat,Int.reduceEq,reduceCtorEq, *]
   | (first|refine aL (by kernel_rfl) ?_|refine aQ ?_|refine aR ?_|refine ba (ax ?_))
     simp only [push_cast,reduceIte,Nat.reduceEqDiff,Nat.reduceAdd,Nat.reduceMul,Nat.reduceSub,Nat.reduceLT,Nat.reduceLeDiff,Int.reduceLT,Int.reduceLE,Int.reduceAdd,Int.reduceSub,Int.reduceNeg,Int.reduceToNat,Int.reduceEq,reduceCtorEq, *]
   | exact aY
   | first|apply aZ|apply aM|apply a6|apply aN|apply a7|apply aO
   | refine aF ?_
   | first|refine aD rfl ?_|refine aE rfl ?_|refine ap rfl ?_ ?_|refine aH rfl (fun _=>?_) (fun _=>?_)|refine aG rfl (fun _=>?_) (fun _=>?_)
   | ((first|refine ao (fun _=>?_) (fun _=>?_)|refine aw (fun _=>?_) (fun _=>?_))<;>try simp (config:={ maxSteps:=2000000 }) only [Kon,push_cast,reduceIte,Nat.reduceEqDiff,Nat.reduceAdd,Nat.reduceMul,Nat.reduceSub,Nat.reduceLT,Nat.reduceLeDiff,Int.reduceLT,Int.reduceLE,Int.reduceAdd,Int.reduceSub,Int.reduceNeg,Int.reduceToNat,Int.reduceEq,reduceCtorEq, *])
   | refine And.intro trivial ?_
   | refine And.intro (by omega) ?_
   | refine aI rfl (fun _=>?_) (fun _=>?_)
   | refine And.intro ?_ ?_
 refine Nt (L.length+1) 0 4 (c:=[.sl [] 0 (some 0),.sl [] 0 (some 0)]) (l:=[]) (n:=0) (by simp) rfl rfl ?_
 refine Nt (L.length+1) 1 5 (c:=[.gsl [] 0 (L.length+2) 4,.sl [] 0 (some 0)]) (l:=[]) (n:=0) (by simp) rfl rfl ?_
 refine XT (L':=L++[.cells [.sl [] 0 (some 0),.sl [] 0 (some 0)],.cells [.gsl [] 0 (L.length+2) 4,.gsl [] 0 (L.length+3) 5],.spare 0 4,.spare 0 5]) (by simp) ?_
 refine wk ?_
 refine am (fun m T' L'=>∃ (j z:Nat) (D:List AV) (X:List Blk),m=5 - j∧j≤5∧Hid (z=13+j)∧Hid (D=bc (bH.take (13+j)))∧T'=[(49,.int .i64 (j:Int)),(48,.int .i64 5),(47,.sl [.str [99,114,101,97,116,101,100,65,116],.str [99,104,97,110,103,101,100,65,116],.str [112,119,100,70,97,105,108,117,114,101],.str [112,119,100,76,111,99,107,101,100],.str [112,119,100,67,104,97,110,103,101,100]] 5 (some 5)),(1,.ptr (L.length+1) 0),(0,.ptr L.length 0)]∧L'=L++(.cells [.sl [] 0 (some 0),.sl [] 0 (some 0)] :: .cells [.gsl D z (L.length+2) 4,.gsl [] 0 (L.length+3) 5] :: .spare z 4 :: .spare 0 5::X)) (CutS (b:=by simp)) ⟨0,13,_,[],rfl,by omega,hid rfl,hid (by rw [← h11.out];rfl),rfl,rfl⟩ ?_
 clear kk1 kk2 kk3 kk4 kk5 kk6 h11
 rintro _ _ _ ⟨j,z,D,X,rfl,hj,hz,hD,rfl,rfl⟩
 by_cases hlt:j<5
 · have g1:(j:Int)<5:=by omega
   have g2:IntKind.i64.wrap ((j:Int)+1)=(j:Int)+1:=ac (by omega) (by omega)
   have hz1:z≤20:=by have:=hz.out;omega
   have hz2:z+1=13+(j+1):=by have:=hz.out;omega
   replace hz2:=hid hz2
   have hj5:j=0∨j=1∨j=2∨j=3∨j=4:=by omega
   clear hz
   rcases hj5 with e|e|e|e|e
   · have e3:([.str [99,114,101,97,116,101,100,65,116],.str [99,104,97,110,103,101,100,65,116],.str [112,119,100,70,97,105,108,117,114,101],.str [112,119,100,76,111,99,107,101,100],.str [112,119,100,67,104,97,110,103,101,100]]:List AV).getD j .undef=.str [99,114,101,97,116,101,100,65,116]:=by rw [e];rfl
     have hD2:D++[.str [99,114,101,97,116,101,100,65,116],.int .i64 4,.bool true,.bool true]=bc (bH.take (13+(j+1))):=by rw [hD.out,e];rfl
     replace hD2:=hid hD2
     replace e:=hid e
     clear hD
     refine wk ?_
     exact ak _ _ _ (by omega) (CutL (b:=by simp)) ⟨j+1,z+1,_,_,rfl,hlt,hz2,hD2,rfl,rfl⟩
   · have e3:([.str [99,114,101,97,116,101,100,65,116],.str [99,104,97,110,103,101,100,65,116],.str [112,119,100,70,97,105,108,117,114,101],.str [112,119,100,76,111,99,107,101,100],.str [112,119,100,67,104,97,110,103,101,100]]:List AV).getD j .undef=.str [99,104,97,110,103,101,100,65,116]:=by rw [e];rfl
     have hD2:D++[.str [99,104,97,110,103,101,100,65,116],.int .i64 4,.bool true,.bool true]=bc (bH.take (13+(j+1))):=by rw [hD.out,e];rfl
     replace hD2:=hid hD2
     replace e:=hid e
     clear hD
     refine wk ?_
     exact ak _ _ _ (by omega) (CutL (b:=by simp)) ⟨j+1,z+1,_,_,rfl,hlt,hz2,hD2,rfl,rfl⟩
   · have e3:([.str [99,114,101,97,116,101,100,65,116],.str [99,104,97,110,103,101,100,65,116],.str [112,119,100,70,97,105,108,117,114,101],.str [112,119,100,76,111,99,107,101,100],.str [112,119,100,67,104,97,110,103,101,100]]:List AV).getD j .undef=.str [112,119,100,70,97,105,108,117,114,101]:=by rw [e];rfl
     have hD2:D++[.str [112,119,100,70,97,105,108,117,114,101],.int .i64 3,.bool false,.bool true]=bc (bH.take (13+(j+1))):=by rw [hD.out,e];rfl
     replace hD2:=hid hD2
     replace e:=hid e
     clear hD
     refine wk ?_
     exact ak _ _ _ (by omega) (CutL (b:=by simp)) ⟨j+1,z+1,_,_,rfl,hlt,hz2,hD2,rfl,rfl⟩
   · have e3:([.str [99,114,101,97,116,101,100,65,116],.str [99,104,97,110,103,101,100,65,116],.str [112,119,100,70,97,105,108,117,114,101],.str [112,119,100,76,111,99,107,101,100],.str [112,119,100,67,104,97,110,103,101,100]]:List AV).getD j .undef=.str [112,119,100,76,111,99,107,101,100]:=by rw [e];rfl
     have hD2:D++[.str [112,119,100,76,111,99,107,101,100],.int .i64 4,.bool true,.bool true]=bc (bH.take (13+(j+1))):=by rw [hD.out,e];rfl
     replace hD2:=hid hD2
     replace e:=hid e
     clear hD
     refine wk ?_
     exact ak _ _ _ (by omega) (CutL (b:=by simp)) ⟨j+1,z+1,_,_,rfl,hlt,hz2,hD2,rfl,rfl⟩
   · have e3:([.str [99,114,101,97,116,101,100,65,116],.str [99,104,97,110,103,101,100,65,116],.str [112,119,100,70,97,105,108,117,114,101],.str [112,119,100,76,111,99,107,101,100],.str [112,119,100,67,104,97,110,103,101,100]]:List AV).getD j .undef=.str [112,119,100,67,104,97,110,103,101,100]:=by rw [e];rfl
     have hD2:D++[.str [112,119,100,67,104,97,110,103,101,100],.int .i64 4,.bool true,.bool true]=bc (bH.take (13+(j+1))):=by rw [hD.out,e];rfl
     replace hD2:=hid hD2
     replace e:=hid e
     clear hD
     refine wk ?_
     exact ak _ _ _ (by omega) (CutL (b:=by simp)) ⟨j+1,z+1,_,_,rfl,hlt,hz2,hD2,rfl,rfl⟩
 · have g1:¬ (j:Int)<5:=by omega
   have hj5:j=5:=by omega
   have hD2:D=bc bH:=by rw [hD.out,hj5];rfl
   have hz2:z=bH.length:=by rw [hz.out,hj5];rfl
   replace hD2:=hid hD2
   replace hz2:=hid hz2
   clear hz hD hj5
   refine wk ?_
   rw [hD2.out,hz2.out]
   refine bE ?_
   simp only [AV.frz,AV.frzL,wT]
   refine ab ?_ h.out
   simp only [AV.refs,AV.refsL,NL,Bool.and_self]
theorem Wm:O4 bH:=by
 refine ⟨by decide,fun ty h=>?_,fun ty h=>?_⟩
 · have:bH.all (fun t=>decide (t.1.length≤1000))=true:=by kernel_rfl
   have:=List.all_eq_true.1 this ty h
   simp only [decide_eq_true_eq] at this
   unfold bf;omega
 · have:bH.all (fun t=>decide (fJ bH t.1=some t))=true:=by kernel_rfl
   simpa using List.all_eq_true.1 this ty h
theorem SY:AV.frzL P5=P5:=by kernel_rfl
end Go.Proofs.YtkkgmgmgcgiffaaGreatDoor.Av
