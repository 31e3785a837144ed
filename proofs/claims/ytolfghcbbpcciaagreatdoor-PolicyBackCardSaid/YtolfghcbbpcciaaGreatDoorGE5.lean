/- Joined texts of the walk, made small by a program. -/
import Derived.Test.YtolfghcbbpcciaaGreatDoorGP4
import Derived.Test.YtolfghcbbpcciaaGreatDoorRows
import Derived.KernelRfl
import Derived.Test.YtolfghcbbpcciaaGreatDoorGE4
import Derived.Test.YtolfghcbbpcciaaGreatDoorGA1
set_option linter.unusedSimpArgs false
set_option linter.unusedVariables false
set_option maxRecDepth 100000
namespace Go.Proofs.YtolfghcbbpcciaaGreatDoor.Av
open Go
def rt:LSO:=[Ai 6]
def rr:LSO:=[Aa 9 2,Ak 10 9,Ab 11 0]
def rq:LSO:=[Aj 12 11 10]
def rp:LSO:=[Ao 13 1 9 11,Ac 14 1 13,Aa 8 14]
def ro:LSO:=[Aa 15 0,Aa 16 8,Aa 17 1,o1 18 (.build [(.str []),(.int .i64 0),(.bool false),(.bool false)] [(0,(1,(tm 16))),(1,(1,(tm 17)))]),BB 19 18,BC 20 15 19,
 Aa 0 20]
def rn:LSO:=[Ag 21 11 1,Aa 11 21]
def rm:LSO:=[Aa 22 0,Aa 6 22]
def kW:ba:=⟨23,(.seq (.sreg rt [])
 (.seq (.seq (.sreg rr [])
 (.block 0 (.loop (.seq (.sreg rq [])
 (.seq (.cond (tm 12) .skip
 (.exit 0))
 (.seq (.block 1 (.seq (.sreg rp BW)
 (.sreg ro Cb)))
 (.sreg rn BV)))))))
 (.seq (.sreg rm BV)
 .ret))),[(.tmp 6)]⟩
attribute [push_cast] rt rr rq rp ro rn rm
theorem I3:bb Tryz.prog (fun _ _=>1) 23=some kW.raw:=by kernel_rfl
def xE:LSO:=[o1 0 (.alloc [(.sl [] 0 (some 0)),(.sl [] 0 (some 0))])]
def xD:LSO:=[o1 1 (.alloc [(.sl [] 0 (some 0)),(.sl [] 0 (some 0))])]
def xC:LSO:=[Ad 5 0 1,Ac 6 1 5,o1 7 (.bslice false 1 1 [(.str [])] [(0,(1,(.av (.str [111,98,106,101,99,116,67,108,97,115,115]))))]),Bj 8 23 6 3 7,Ad 9 0 1,An 1 9 8]
def xB:LSO:=[Ad 10 0 1,Ac 11 1 10,
 o1 12 (.bslice false 1 4 [(.str []),(.str []),(.str []),(.str [])] [(0,(1,(.av (.str [99,110])))),(1,(1,(.av (.str [115,110])))),(2,(1,(.av (.str [111,117])))),(3,(1,(.av (.str [111]))))]),
 Bj 13 23 11 1 12,Ad 14 0 1,An 1 14 13]
def xA:LSO:=[Ad 15 0 1,Ac 16 1 15,
 o1 17 (.bslice false 1 3 [(.str []),(.str []),(.str [])] [(0,(1,(.av (.str [100,99])))),(1,(1,(.av (.str [117,105,100])))),(2,(1,(.av (.str [109,97,105,108]))))]),
 Bj 18 23 16 3 17,Ad 19 0 1,An 1 19 18]
def xz:LSO:=[Ad 20 0 1,Ac 21 1 20,Bs 22,Bj 23 23 21 1 22,Ad 24 0 1,An 1 24 23]
def xy:LSO:=[Ad 25 0 1,Ac 26 1 25,o1 27 (.bslice false 1 1 [(.str [])] [(0,(1,(.av (.str [109,101,109,98,101,114]))))]),Bj 28 23 26 6 27,Ad 29 0 1,An 1 29 28]
def xx:LSO:=[Ad 30 0 1,Ac 31 1 30,o1 32 (.bslice false 1 1 [(.str [])] [(0,(1,(.av (.str [117,115,101,114,80,97,115,115,119,111,114,100]))))]),Bj 33 23 31 7 32,
 Ad 34 0 1,An 1 34 33]
def xw:LSO:=[Ad 35 0 1,Ac 36 1 35,
 o1 37 (.build [(.str []),(.int .i64 0),(.bool false),(.bool false)] [(0,(1,(.av (.str [101,109,112,108,111,121,101,101,78,117,109,98,101,114])))),(1,(1,(iv 4))),(2,(1,(.av (.bool true))))]),
 BB 38 37,BC 39 36 38,Ad 40 0 1,An 1 40 39]
def xv:LSO:=[Ad 41 0 1,Ac 42 1 41,
 o1 43 (.build [(.str []),(.int .i64 0),(.bool false),(.bool false)] [(0,(1,(.av (.str [97,99,116,105,118,101])))),(1,(1,(iv 5))),(2,(1,(.av (.bool true))))]),BB 44 43,
 BC 45 42 44,Ad 46 0 1,An 1 46 45]
def rO:LSO:=[o1 47 (.bslice false 1 5 [(.str []),(.str []),(.str []),(.str []),(.str [])] [(0,(1,(.av (.str [99,114,101,97,116,101,100,65,116])))),(1,(1,(.av (.str [99,104,97,110,103,101,100,65,116])))),(2,(1,(.av (.str [112,119,100,70,97,105,108,117,114,101])))),(3,(1,(.av (.str [112,119,100,76,111,99,107,101,100])))),(4,(1,(.av (.str [112,119,100,67,104,97,110,103,101,100]))))]),
 Ak 48 47,Ab 49 0]
def rN:LSO:=[Aj 50 49 48]
def rM:LSO:=[Ao 51 1 47 49,Ac 52 1 51,Aa 3 52]
def rL:LSO:=[Aa 53 3,
 o1 54 (.build [(.str []),(.int .i64 0),(.bool false),(.bool false)] [(0,(1,(tm 53))),(1,(1,(iv 4))),(2,(1,(.av (.bool true)))),(3,(1,(.av (.bool true))))]),
 o1 4 (.alloc [(.str []),(.int .i64 0),(.bool false),(.bool false)]),An 4 4 54]
def rK:LSO:=[Aa 55 3,o1 56 (.bin .eql (tm 55) (.av (.str [112,119,100,70,97,105,108,117,114,101])))]
def rJ:LSO:=[Ad 57 1 4,o0 (.store 1 (tm 57) (iv 3))]
def rI:LSO:=[Ad 58 2 4,o0 (.store 1 (tm 58) (.av (.bool false)))]
def rH:LSO:=[Ad 59 0 1,Ac 60 1 59,Au 61 4 4,BB 62 61,BC 63 60 62,Ad 64 0 1,An 1 64 63]
def rG:LSO:=[Ag 65 49 1,Aa 49 65]
def rF:LSO:=[Ad 66 1 1,Ac 67 1 66,o1 68 (.bslice false 1 1 [(.str [])] [(0,(1,(.av (.str [111,98,106,101,99,116,67,108,97,115,115]))))]),
 o1 69 (.bslice false 1 5 [(.str []),(.str []),(.str []),(.str []),(.str [])] [(0,(1,(.av (.str [99,114,101,97,116,101,100,65,116])))),(1,(1,(.av (.str [99,104,97,110,103,101,100,65,116])))),(2,(1,(.av (.str [112,119,100,70,97,105,108,117,114,101])))),(3,(1,(.av (.str [112,119,100,76,111,99,107,101,100])))),(4,(1,(.av (.str [112,119,100,67,104,97,110,103,101,100]))))]),
 o1 70 (.build [(.str []),(.str []),(.int .i64 0),(.sl [] 0 (some 0)),(.sl [] 0 (some 0))] [(0,(1,(.av (.str [116,111,112])))),(3,(1,(tm 68))),(4,(1,(tm 69)))]),AN 71 70,
 AO 72 67 71,Ad 73 1 1,An 1 73 72]
def rE:LSO:=[Ad 74 1 1,Ac 75 1 74,o1 76 (.bslice false 1 1 [(.str [])] [(0,(1,(.av (.str [100,99]))))]),Bs 77,
 o1 78 (.build [(.str []),(.str []),(.int .i64 0),(.sl [] 0 (some 0)),(.sl [] 0 (some 0))] [(0,(1,(.av (.str [100,111,109,97,105,110])))),(1,(1,(.av (.str [116,111,112])))),(2,(1,(iv 1))),(3,(1,(tm 76))),(4,(1,(tm 77)))]),
 AN 79 78,AO 80 75 79,Ad 81 1 1,An 1 81 80]
def rD:LSO:=[Ad 82 1 1,Ac 83 1 82,o1 84 (.bslice false 1 1 [(.str [])] [(0,(1,(.av (.str [111]))))]),Bs 85,
 o1 86 (.build [(.str []),(.str []),(.int .i64 0),(.sl [] 0 (some 0)),(.sl [] 0 (some 0))] [(0,(1,(.av (.str [111,114,103,97,110,105,122,97,116,105,111,110])))),(1,(1,(.av (.str [116,111,112])))),(2,(1,(iv 1))),(3,(1,(tm 84))),(4,(1,(tm 85)))]),
 AN 87 86,AO 88 83 87,Ad 89 1 1,An 1 89 88]
def rC:LSO:=[Ad 90 1 1,Ac 91 1 90,o1 92 (.bslice false 1 1 [(.str [])] [(0,(1,(.av (.str [111,117]))))]),Bs 93,
 o1 94 (.build [(.str []),(.str []),(.int .i64 0),(.sl [] 0 (some 0)),(.sl [] 0 (some 0))] [(0,(1,(.av (.str [111,114,103,97,110,105,122,97,116,105,111,110,97,108,85,110,105,116])))),(1,(1,(.av (.str [116,111,112])))),(2,(1,(iv 1))),(3,(1,(tm 92))),(4,(1,(tm 93)))]),
 AN 95 94,AO 96 91 95,Ad 97 1 1,An 1 97 96]
def rB:LSO:=[Ad 98 1 1,Ac 99 1 98,o1 100 (.bslice false 1 2 [(.str []),(.str [])] [(0,(1,(.av (.str [99,110])))),(1,(1,(.av (.str [115,110]))))]),
 o1 101 (.bslice false 1 2 [(.str []),(.str [])] [(0,(1,(.av (.str [100,101,115,99,114,105,112,116,105,111,110])))),(1,(1,(.av (.str [117,115,101,114,80,97,115,115,119,111,114,100]))))]),
 o1 102 (.build [(.str []),(.str []),(.int .i64 0),(.sl [] 0 (some 0)),(.sl [] 0 (some 0))] [(0,(1,(.av (.str [112,101,114,115,111,110])))),(1,(1,(.av (.str [116,111,112])))),(2,(1,(iv 1))),(3,(1,(tm 100))),(4,(1,(tm 101)))]),
 AN 103 102,AO 104 99 103,Ad 105 1 1,An 1 105 104]
def rA:LSO:=[Ad 106 1 1,Ac 107 1 106,
 o1 108 (.bslice false 1 4 [(.str []),(.str []),(.str []),(.str [])] [(0,(1,(.av (.str [117,105,100])))),(1,(1,(.av (.str [109,97,105,108])))),(2,(1,(.av (.str [101,109,112,108,111,121,101,101,78,117,109,98,101,114])))),(3,(1,(.av (.str [97,99,116,105,118,101]))))]),
 o1 109 (.build [(.str []),(.str []),(.int .i64 0),(.sl [] 0 (some 0)),(.sl [] 0 (some 0))] [(0,(1,(.av (.str [105,110,101,116,80,101,114,115,111,110])))),(1,(1,(.av (.str [112,101,114,115,111,110])))),(2,(1,(iv 1))),(4,(1,(tm 108)))]),
 AN 110 109,AO 111 107 110,Ad 112 1 1,An 1 112 111]
def rz:LSO:=[Ad 113 1 1,Ac 114 1 113,o1 115 (.bslice false 1 2 [(.str []),(.str [])] [(0,(1,(.av (.str [99,110])))),(1,(1,(.av (.str [109,101,109,98,101,114]))))]),
 Bs 116,
 o1 117 (.build [(.str []),(.str []),(.int .i64 0),(.sl [] 0 (some 0)),(.sl [] 0 (some 0))] [(0,(1,(.av (.str [103,114,111,117,112])))),(1,(1,(.av (.str [116,111,112])))),(2,(1,(iv 1))),(3,(1,(tm 115))),(4,(1,(tm 116)))]),
 AN 118 117,AO 119 114 118,Ad 120 1 1,An 1 120 119]
def ry:LSO:=[Ad 121 1 1,Ac 122 1 121,o1 123 (.bslice false 1 1 [(.str [])] [(0,(1,(.av (.str [117,115,101,114,80,97,115,115,119,111,114,100]))))]),
 o1 124 (.build [(.str []),(.str []),(.int .i64 0),(.sl [] 0 (some 0)),(.sl [] 0 (some 0))] [(0,(1,(.av (.str [115,101,99,117,114,101,100])))),(1,(1,(.av (.str [116,111,112])))),(2,(1,(iv 2))),(3,(1,(tm 123)))]),
 AN 125 124,AO 126 122 125,Ad 127 1 1,An 1 127 126]
def rx:LSO:=[Ad 128 1 1,Ac 129 1 128,o1 130 (.bslice false 1 2 [(.str []),(.str [])] [(0,(1,(.av (.str [117,105,100])))),(1,(1,(.av (.str [109,97,105,108]))))]),
 o1 131 (.build [(.str []),(.str []),(.int .i64 0),(.sl [] 0 (some 0)),(.sl [] 0 (some 0))] [(0,(1,(.av (.str [108,97,98,101,108,108,101,100])))),(1,(1,(.av (.str [116,111,112])))),(2,(1,(iv 2))),(4,(1,(tm 130)))]),
 AN 132 131,AO 133 129 132,Ad 134 1 1,An 1 134 133]
def ru:LSO:=[Au 135 2 1,An 2 0 135]
def qc:ba:=⟨136,(.seq (.sreg xE [])
 (.seq (.sreg xD [])
 (.seq (.sreg xC Ch)
 (.seq (.sreg xB Ch)
 (.seq (.sreg xA Ch)
 (.seq (.sreg xz Ch)
 (.seq (.sreg xy Ch)
 (.seq (.sreg xx Ch)
 (.seq (.sreg xw Cw)
 (.seq (.sreg xv Cw)
 (.seq (.seq (.sreg rO [])
 (.block 0 (.loop (.seq (.sreg rN [])
 (.seq (.cond (tm 50) .skip
 (.exit 0))
 (.seq (.block 1 (.seq (.sreg rM BW)
 (.seq (.sreg rL BW)
 (.seq (.seq (.sreg rK BV)
 (.cond (tm 56) (.seq (.sreg rJ [false])
 (.sreg rI [false]))
 .skip))
 (.sreg rH Cw)))))
 (.sreg rG BV)))))))
 (.seq (.sreg rF Cj)
 (.seq (.sreg rE Cj)
 (.seq (.sreg rD Cj)
 (.seq (.sreg rC Cj)
 (.seq (.sreg rB Cj)
 (.seq (.sreg rA Ci)
 (.seq (.sreg rz Cj)
 (.seq (.sreg ry Ci)
 (.seq (.sreg rx Ci)
 (.seq (.sreg ru [false])
 .ret))))))))))))))))))))),[(.cell true 2 0)]⟩
attribute [push_cast] xE xD xC xB xA xz xy xx xw xv rO rN rM rL rK rJ rI rH rG rF rE rD rC rB rA rz ry rx ru
theorem Kg:bb Tryz.prog (fun _ _=>1) 8=some qc.raw:=by kernel_rfl
variable {L:List Blk} {K:AV→List Blk→Prop}
set_option maxHeartbeats 8000000
set_option maxRecDepth 1000000
abbrev tnC (syn:Int) (nm:List UInt8):List AV:=[.str nm,.int .i64 syn,.bool false,.bool false]
theorem Rj {α:Type} {L:List α} {p:Nat} {b:α} (h:L[p]?=some b):L.set p b=L:=by
 apply List.ext_getElem?
 intro i
 rw [List.getElem?_set]
 split
 · rename_i e;subst e
   rw [h,if_pos (List.getElem?_eq_some_iff.1 h).1]
 · rfl
theorem UI {C:List AV} {n p:Nat} {syn:Int} {names:List (List UInt8)} {cap:Option Nat} (hn:n+names.length≤1100000) (hp:L[p]?=some (.spare n 4))
   (h:K (.gsl (C++names.flatMap (tnC syn)) (n+names.length) p 4) (L.set p (.spare (n+names.length) 4))) :
   ao Tryz.prog 23 [.gsl C n p 4,.int .i64 syn,.sl (names.map AV.str) names.length cap] L K:=by
 have hpl:p<L.length:=(List.getElem?_eq_some_iff.1 hp).1
 have hset:∀ b,(L.set p b)[p]?=some b:=fun b=>by simp [hpl]
 replace h:=hid h
 refine ag I3 (by simp [kW]) ?_
 simp only [kW,aN]
 refine wk ?_
 refine aI (fun m T' L'=>∃ (j z:Nat) (D:List AV) (M:List Blk),m=names.length - j∧j≤names.length∧z=n+j∧Hid (D=C++(names.take j).flatMap (tnC syn))∧Hid (M=L.set p (.spare z 4))∧T'=[(11,.int .i64 (j:Int)),(10,.int .i64 names.length),(9,.sl (names.map AV.str) names.length cap),(0,.gsl D z p 4),(1,.int .i64 syn)]∧M=L') (CutS (b:=Nat.le_refl _)) ⟨0,n,C,L,rfl,Nat.zero_le _,rfl,hid (by simp),hid (Rj hp).symm,rfl,rfl⟩ ?_
 rintro _ _ _ ⟨j,z,D,M,rfl,hj,hz,hD,hM,rfl,rfl⟩
 by_cases hlt:j<names.length
 · have g1:(j:Int)<(names.length:Int):=by omega
   have g2:IntKind.i64.wrap ((j:Int)+1)=(j:Int)+1:=ac (by omega) (by omega)
   obtain ⟨x,hx⟩:∃ x,names.getD j []=x:=⟨_,rfl⟩
   have j3:(names.map AV.str).getD j .undef=.str x:=by rw [← hx];simp [hlt]
   have htk:names.take (j+1)=names.take j++[x]:=by rw [List.take_succ_eq_append_getElem hlt,← hx];simp [hlt]
   have hMp:M[p]?=some (.spare z 4):=by rw [hM.out];exact hset _
   have hD2:D++[.str x,.int .i64 syn,.bool false,.bool false]=C++(names.take (j+1)).flatMap (tnC syn):=by rw [hD.out,htk];simp
   have hM2:M.set p (.spare (z+1) 4)=L.set p (.spare (z+1) 4):=by rw [hM.out,List.set_set]
   have hMl:M.length=L.length:=by rw [hM.out];simp
   replace hD2:=hid hD2
   replace hM2:=hid hM2
   have hz1:z+1≤1100000:=by omega
   have hz2:z+1=n+(j+1):=by omega
   replace hz2:=hid hz2
   clear hx htk hD hM hset hz
   refine wk ?_
   exact az _ _ _ (by omega) (CutL (b:=by simp;omega)) ⟨j+1,z+1,_,_,rfl,hlt,hz2.out,hD2,hM2,rfl,rfl⟩
 · have hke:j=names.length:=by omega
   subst hke
   have g1:¬ (names.length:Int)<(names.length:Int):=by omega
   have hD2:=hD.out
   have hM2:=hM.out
   rw [List.take_length] at hD2
   subst hD2 hz
   rw [hM2] at *
   clear hD hM hM2
   refine wk ?_
   exact ab h.out
def bg:List Typ:=[([111,98,106,101,99,116,67,108,97,115,115],3,false,false),([99,110],1,false,false),([115,110],1,false,false),([111,117],1,false,false),([111],1,false,false),([100,99],3,false,false),([117,105,100],3,false,false),([109,97,105,108],3,false,false),([100,101,115,99,114,105,112,116,105,111,110],1,false,false),([109,101,109,98,101,114],6,false,false),([117,115,101,114,80,97,115,115,119,111,114,100],7,false,false),([101,109,112,108,111,121,101,101,78,117,109,98,101,114],4,true,false),([97,99,116,105,118,101],5,true,false),([99,114,101,97,116,101,100,65,116],4,true,true),([99,104,97,110,103,101,100,65,116],4,true,true),([112,119,100,70,97,105,108,117,114,101],3,false,true),([112,119,100,76,111,99,107,101,100],4,true,true),([112,119,100,67,104,97,110,103,101,100],4,true,true)]
def O7:List AV:=[.str [116,111,112],.str [],.int .i64 0,.sl [.str [111,98,106,101,99,116,67,108,97,115,115]] 1 none,.sl [.str [99,114,101,97,116,101,100,65,116],.str [99,104,97,110,103,101,100,65,116],.str [112,119,100,70,97,105,108,117,114,101],.str [112,119,100,76,111,99,107,101,100],.str [112,119,100,67,104,97,110,103,101,100]] 5 none,.str [100,111,109,97,105,110],.str [116,111,112],.int .i64 1,.sl [.str [100,99]] 1 none,.sl [.str [100,101,115,99,114,105,112,116,105,111,110]] 1 none,.str [111,114,103,97,110,105,122,97,116,105,111,110],.str [116,111,112],.int .i64 1,.sl [.str [111]] 1 none,.sl [.str [100,101,115,99,114,105,112,116,105,111,110]] 1 none,.str [111,114,103,97,110,105,122,97,116,105,111,110,97,108,85,110,105,116],.str [116,111,112],.int .i64 1,.sl [.str [111,117]] 1 none,.sl [.str [100,101,115,99,114,105,112,116,105,111,110]] 1 none,.str [112,101,114,115,111,110],.str [116,111,112],.int .i64 1,.sl [.str [99,110],.str [115,110]] 2 none,.sl [.str [100,101,115,99,114,105,112,116,105,111,110],.str [117,115,101,114,80,97,115,115,119,111,114,100]] 2 none,.str [105,110,101,116,80,101,114,115,111,110],.str [112,101,114,115,111,110],.int .i64 1,.sl [] 0 none,.sl [.str [117,105,100],.str [109,97,105,108],.str [101,109,112,108,111,121,101,101,78,117,109,98,101,114],.str [97,99,116,105,118,101]] 4 none,.str [103,114,111,117,112],.str [116,111,112],.int .i64 1,.sl [.str [99,110],.str [109,101,109,98,101,114]] 2 none,.sl [.str [100,101,115,99,114,105,112,116,105,111,110]] 1 none,.str [115,101,99,117,114,101,100],.str [116,111,112],.int .i64 2,.sl [.str [117,115,101,114,80,97,115,115,119,111,114,100]] 1 none,.sl [] 0 none,.str [108,97,98,101,108,108,101,100],.str [116,111,112],.int .i64 2,.sl [] 0 none,.sl [.str [117,105,100],.str [109,97,105,108]] 2 none]
theorem Oa:∀ ts:List Typ,AV.frzL (cv ts)=cv ts
 | []=>rfl
 | ty::ts=>by
   rw [show cv (ty::ts)=tyC ty++cv ts from rfl]
   simp only [tyC,List.cons_append,List.nil_append,AV.frzL,AV.frz,Oa ts]
theorem ME (p:Nat→Bool):∀ ts:List Typ,AV.refsL p (cv ts)=true
 | []=>rfl
 | ty::ts=>by
   rw [show cv (ty::ts)=tyC ty++cv ts from rfl]
   simp only [tyC,List.cons_append,List.nil_append,AV.refsL,AV.refs,ME p ts,Bool.and_self]
theorem WN {P:Program} {N:Nat} {own:Nat→Nat→Nat} {Q:Exit→Tm→List Blk→Prop} {T:Tm} {lc:cc} {L L':List Blk} (e:L=L') (h:AW P N own lc Q T L'):AW P N own lc Q T L:=e ▸ h
theorem TY (h:K (.agg [.sl (cv bg) bg.length none,.sl O7 9 none]) L):ao Tryz.prog 8 [] L K:=by
 have st:∀ (a:Nat) (syn:Int) (ns:List (List UInt8)) (b:Nat),cv (bg.take a)++ns.flatMap (tnC syn)=cv (bg.take b)→a+ns.length=b→b≤100→∀ K:AV→List Blk→Prop,K (.gsl (cv (bg.take b)) b (L.length+2) 4) (L++[.cells [.sl [] 0 (some 0),.sl [] 0 (some 0)],.cells [.gsl (cv (bg.take a)) a (L.length+2) 4,.gsl [] 0 (L.length+3) 5],.spare b 4,.spare 0 5])→ao Tryz.prog 23 [.gsl (cv (bg.take a)) a (L.length+2) 4,.int .i64 syn,.sl (ns.map AV.str) ns.length (some ns.length)] (L++[.cells [.sl [] 0 (some 0),.sl [] 0 (some 0)],.cells [.gsl (cv (bg.take a)) a (L.length+2) 4,.gsl [] 0 (L.length+3) 5],.spare a 4,.spare 0 5]) K:=fun a syn ns b h1 h2 h3 K q=>by
   refine UI (by omega) (by simp) ?_
   rw [h1,h2,List.set_append_right _ _ (by omega),show L.length+2 - L.length=2 by omega]
   exact q
 have s1:=st 0 3 [[111,98,106,101,99,116,67,108,97,115,115]] 1 rfl rfl (by omega)
 have s2:=st 1 1 [[99,110],[115,110],[111,117],[111]] 5 rfl rfl (by omega)
 have s3:=st 5 3 [[100,99],[117,105,100],[109,97,105,108]] 8 rfl rfl (by omega)
 have s4:=st 8 1 [[100,101,115,99,114,105,112,116,105,111,110]] 9 rfl rfl (by omega)
 have s5:=st 9 6 [[109,101,109,98,101,114]] 10 rfl rfl (by omega)
 have s6:=st 10 7 [[117,115,101,114,80,97,115,115,119,111,114,100]] 11 rfl rfl (by omega)
 clear st
 obtain ⟨C1,h1⟩:∃ C,cv (bg.take 1)=C:=⟨_,rfl⟩
 obtain ⟨C5,h5⟩:∃ C,cv (bg.take 5)=C:=⟨_,rfl⟩
 obtain ⟨C8,h8⟩:∃ C,cv (bg.take 8)=C:=⟨_,rfl⟩
 obtain ⟨C9,h9⟩:∃ C,cv (bg.take 9)=C:=⟨_,rfl⟩
 obtain ⟨C10,h10⟩:∃ C,cv (bg.take 10)=C:=⟨_,rfl⟩
 obtain ⟨C11,h11⟩:∃ C,cv (bg.take 11)=C:=⟨_,rfl⟩
 rw [show cv (bg.take 0)=[] from rfl] at s1
 rw [h1] at s1 s2
 rw [h5] at s2 s3
 rw [h8] at s3 s4
 rw [h9] at s4 s5
 rw [h10] at s5 s6
 rw [h11] at s6
 simp only [List.map_cons,List.map_nil,List.length_cons,List.length_nil,Nat.zero_add,Nat.reduceAdd] at s1 s2 s3 s4 s5 s6
 have kk1:=@hid _ (fun {K:AV→List Blk→Prop}=>s1 K)
 have kk2:=@hid _ (fun {K:AV→List Blk→Prop}=>s2 K)
 have kk3:=@hid _ (fun {K:AV→List Blk→Prop}=>s3 K)
 have kk4:=@hid _ (fun {K:AV→List Blk→Prop}=>s4 K)
 have kk5:=@hid _ (fun {K:AV→List Blk→Prop}=>s5 K)
 have kk6:=@hid _ (fun {K:AV→List Blk→Prop}=>s6 K)
 clear s1 s2 s3 s4 s5 s6
 clear h1 h5 h8 h9 h10
 replace h11:=hid h11
 replace h:=hid h
 refine ag Kg (by simp [qc]) ?_
 simp only [qc,aN]
 iterate 6 first
   | refine aT ?_
   | (first|refine aG (by kernel_rfl) ?_|refine ap (by kernel_rfl) ?_|refine aq ?_|refine aZ ?_|refine aO (fun _=>?_)|refine aj ?_|refine aK ?_)
     simp (config:={ maxSteps:=2000000 }) only [Kon,push_cast,reduceIte,Nat.reduceEqDiff,Nat.reduceAdd,Nat.reduceMul,Nat.reduceSub,Nat.reduceLT,Nat.reduceLeDiff,Int.reduceLT,Int.reduceLE,Int.reduceAdd,Int.reduceSub,Int.reduceNeg,Int.reduceToNat,Int.reduceEq,reduceCtorEq, *]
   | (first|refine aC (by kernel_rfl) ?_|refine aH ?_|refine aJ ?_|refine aU (ai ?_))
     simp only [push_cast,reduceIte,Nat.reduceEqDiff,Nat.reduceAdd,Nat.reduceMul,Nat.reduceSub,Nat.reduceLT,Nat.reduceLeDiff,Int.reduceLT,Int.reduceLE,Int.reduceAdd,Int.reduceSub,Int.reduceNeg,Int.reduceToNat,Int.reduceEq,reduceCtorEq, *]
   | exact aP
   | first|apply aQ|apply aD|apply aR|apply aE|apply aS|apply aF
   | refine aw ?_
   | first|refine ar rfl ?_|refine au rfl ?_|refine af rfl ?_ ?_|refine ay rfl (fun _=>?_) (fun _=>?_)|refine ax rfl (fun _=>?_) (fun _=>?_)
   | ((first|refine ae (fun _=>?_) (fun _=>?_)|refine ah (fun _=>?_) (fun _=>?_))<;>try simp (config:={ maxSteps:=2000000 }) only [Kon,push_cast,reduceIte,Nat.reduceEqDiff,Nat.reduceAdd,Nat.reduceMul,Nat.reduceSub,Nat.reduceLT,Nat.reduceLeDiff,Int.reduceLT,Int.reduceLE,Int.reduceAdd,Int.reduceSub,Int.reduceNeg,Int.reduceToNat,Int.reduceEq,reduceCtorEq, *])
   | refine And.intro trivial ?_
   | refine And.intro (by omega) ?_
   | refine aA rfl (fun _=>?_) (fun _=>?_)
   | refine And.intro ?_ ?_
 refine Mm (L.length+1) 0 4 (c:=[.sl [] 0 (some 0),.sl [] 0 (some 0)]) (l:=[]) (n:=0) (by simp) rfl rfl ?_
 refine Mm (L.length+1) 1 5 (c:=[.gsl [] 0 (L.length+2) 4,.sl [] 0 (some 0)]) (l:=[]) (n:=0) (by simp) rfl rfl ?_
 refine WN (L':=L++[.cells [.sl [] 0 (some 0),.sl [] 0 (some 0)],.cells [.gsl [] 0 (L.length+2) 4,.gsl [] 0 (L.length+3) 5],.spare 0 4,.spare 0 5]) (by simp) ?_
 refine wk ?_
 refine aI (fun m T' L'=>∃ (j z:Nat) (D:List AV) (X:List Blk),m=5 - j∧j≤5∧Hid (z=13+j)∧Hid (D=cv (bg.take (13+j)))∧T'=[(49,.int .i64 (j:Int)),(48,.int .i64 5),(47,.sl [.str [99,114,101,97,116,101,100,65,116],.str [99,104,97,110,103,101,100,65,116],.str [112,119,100,70,97,105,108,117,114,101],.str [112,119,100,76,111,99,107,101,100],.str [112,119,100,67,104,97,110,103,101,100]] 5 (some 5)),(1,.ptr (L.length+1) 0),(0,.ptr L.length 0)]∧L'=L++(.cells [.sl [] 0 (some 0),.sl [] 0 (some 0)] :: .cells [.gsl D z (L.length+2) 4,.gsl [] 0 (L.length+3) 5] :: .spare z 4 :: .spare 0 5::X)) (CutS (b:=by simp)) ⟨0,13,_,[],rfl,by omega,hid rfl,hid (by rw [← h11.out];rfl),rfl,rfl⟩ ?_
 clear kk1 kk2 kk3 kk4 kk5 kk6 h11
 rintro _ _ _ ⟨j,z,D,X,rfl,hj,hz,hD,rfl,rfl⟩
 by_cases hlt:j<5
 · have g1:(j:Int)<5:=by omega
   have g2:IntKind.i64.wrap ((j:Int)+1)=(j:Int)+1:=ac (by omega) (by omega)
   have hz1:z≤20:=by have:=hz.out;omega
   have hz2:z+1=13+(j+1):=by have:=hz.out;omega
   replace hz2:=hid hz2
   have hj5:j=0∨j=1∨j=2∨j=3∨j=4:=by omega
   clear hz
   rcases hj5 with e|e|e|e|e
   · have e3:([.str [99,114,101,97,116,101,100,65,116],.str [99,104,97,110,103,101,100,65,116],.str [112,119,100,70,97,105,108,117,114,101],.str [112,119,100,76,111,99,107,101,100],.str [112,119,100,67,104,97,110,103,101,100]]:List AV).getD j .undef=.str [99,114,101,97,116,101,100,65,116]:=by rw [e];rfl
     have hD2:D++[.str [99,114,101,97,116,101,100,65,116],.int .i64 4,.bool true,.bool true]=cv (bg.take (13+(j+1))):=by rw [hD.out,e];rfl
     replace hD2:=hid hD2
     replace e:=hid e
     clear hD
     refine wk ?_
     exact az _ _ _ (by omega) (CutL (b:=by simp)) ⟨j+1,z+1,_,_,rfl,hlt,hz2,hD2,rfl,rfl⟩
   · have e3:([.str [99,114,101,97,116,101,100,65,116],.str [99,104,97,110,103,101,100,65,116],.str [112,119,100,70,97,105,108,117,114,101],.str [112,119,100,76,111,99,107,101,100],.str [112,119,100,67,104,97,110,103,101,100]]:List AV).getD j .undef=.str [99,104,97,110,103,101,100,65,116]:=by rw [e];rfl
     have hD2:D++[.str [99,104,97,110,103,101,100,65,116],.int .i64 4,.bool true,.bool true]=cv (bg.take (13+(j+1))):=by rw [hD.out,e];rfl
     replace hD2:=hid hD2
     replace e:=hid e
     clear hD
     refine wk ?_
     exact az _ _ _ (by omega) (CutL (b:=by simp)) ⟨j+1,z+1,_,_,rfl,hlt,hz2,hD2,rfl,rfl⟩
   · have e3:([.str [99,114,101,97,116,101,100,65,116],.str [99,104,97,110,103,101,100,65,116],.str [112,119,100,70,97,105,108,117,114,101],.str [112,119,100,76,111,99,107,101,100],.str [112,119,100,67,104,97,110,103,101,100]]:List AV).getD j .undef=.str [112,119,100,70,97,105,108,117,114,101]:=by rw [e];rfl
     have hD2:D++[.str [112,119,100,70,97,105,108,117,114,101],.int .i64 3,.bool false,.bool true]=cv (bg.take (13+(j+1))):=by rw [hD.out,e];rfl
     replace hD2:=hid hD2
     replace e:=hid e
     clear hD
     refine wk ?_
     exact az _ _ _ (by omega) (CutL (b:=by simp)) ⟨j+1,z+1,_,_,rfl,hlt,hz2,hD2,rfl,rfl⟩
   · have e3:([.str [99,114,101,97,116,101,100,65,116],.str [99,104,97,110,103,101,100,65,116],.str [112,119,100,70,97,105,108,117,114,101],.str [112,119,100,76,111,99,107,101,100],.str [112,119,100,67,104,97,110,103,101,100]]:List AV).getD j .undef=.str [112,119,100,76,111,99,107,101,100]:=by rw [e];rfl
     have hD2:D++[.str [112,119,100,76,111,99,107,101,100],.int .i64 4,.bool true,.bool true]=cv (bg.take (13+(j+1))):=by rw [hD.out,e];rfl
     replace hD2:=hid hD2
     replace e:=hid e
     clear hD
     refine wk ?_
     exact az _ _ _ (by omega) (CutL (b:=by simp)) ⟨j+1,z+1,_,_,rfl,hlt,hz2,hD2,rfl,rfl⟩
   · have e3:([.str [99,114,101,97,116,101,100,65,116],.str [99,104,97,110,103,101,100,65,116],.str [112,119,100,70,97,105,108,117,114,101],.str [112,119,100,76,111,99,107,101,100],.str [112,119,100,67,104,97,110,103,101,100]]:List AV).getD j .undef=.str [112,119,100,67,104,97,110,103,101,100]:=by rw [e];rfl
     have hD2:D++[.str [112,119,100,67,104,97,110,103,101,100],.int .i64 4,.bool true,.bool true]=cv (bg.take (13+(j+1))):=by rw [hD.out,e];rfl
     replace hD2:=hid hD2
     replace e:=hid e
     clear hD
     refine wk ?_
     exact az _ _ _ (by omega) (CutL (b:=by simp)) ⟨j+1,z+1,_,_,rfl,hlt,hz2,hD2,rfl,rfl⟩
 · have g1:¬ (j:Int)<5:=by omega
   have hj5:j=5:=by omega
   have hD2:D=cv bg:=by rw [hD.out,hj5];rfl
   have hz2:z=bg.length:=by rw [hz.out,hj5];rfl
   replace hD2:=hid hD2
   replace hz2:=hid hz2
   clear hz hD hj5
   refine wk ?_
   rw [hD2.out,hz2.out]
   refine aX ?_
   simp only [AV.frz,AV.frzL,Oa]
   refine aa ?_ h.out
   simp only [AV.refs,AV.refsL,ME,Bool.and_self]
theorem KH:Qg bg:=by
 refine ⟨by decide,fun ty h=>?_,fun ty h=>?_⟩
 · have:bg.all (fun t=>decide (t.1.length≤1000))=true:=by kernel_rfl
   have:=List.all_eq_true.1 this ty h
   simp only [decide_eq_true_eq] at this
   unfold bH;omega
 · have:bg.all (fun t=>decide (gU bg t.1=some t))=true:=by kernel_rfl
   simpa using List.all_eq_true.1 this ty h
end Go.Proofs.YtolfghcbbpcciaaGreatDoor.Av
