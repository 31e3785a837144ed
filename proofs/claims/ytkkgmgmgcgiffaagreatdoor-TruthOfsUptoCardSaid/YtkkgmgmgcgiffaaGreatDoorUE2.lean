/- Joined texts of the walk, made small by a program. -/
import Derived.Test.YtkkgmgmgcgiffaaGreatDoorUP4
import Derived.Test.YtkkgmgmgcgiffaaGreatDoorRows
import Derived.KernelRfl
import Derived.Test.YtkkgmgmgcgiffaaGreatDoorUE1
import Derived.Laws.Externs
import Derived.Lib.Overlaps
import Derived.Test.YtkkgmgmgcgiffaaGreatDoorUS1
import Derived.Test.YtkkgmgmgcgiffaaGreatDoorUP5
set_option linter.unusedSimpArgs false
set_option linter.unusedVariables false
set_option maxRecDepth 100000
namespace Go.Proofs.YtkkgmgmgcgiffaaGreatDoor.Av
open Go
def wH:LSO:=[Ab 4 0,Af 5]
def wG:LSO:=[Aa 6 0,Aa 7 1,Aj 8 61 7,o1 9 (.call 122 [(tm 6),(tm 8),(.av (.func 123 []))]),As 10 9,Au 11 9,Aa 4 10,Aa 5 11]
def eR:aW:=⟨12,(.seq (.sreg wH [])
 (.seq (.sreg wG Cs)
 .ret)),[(.tmp 4),(.tmp 5)]⟩
attribute [push_cast] wH wG
theorem q0:bb Tryz.prog (fun _ _=>1) 78=some eR.raw:=by kernel_rfl
def mo:LSO:=[A3 2 0,Ab 4 0]
def mn:LSO:=[Ac 5 0 2,Ad 6 1 5,Aj 7 61 6,Aa 8 1,Aw 9 94 7 8,Aa 4 9]
def dG:aW:=⟨10,(.seq (.sreg mo [])
 (.seq (.sreg mn Ck)
 .ret)),[(.tmp 4)]⟩
attribute [push_cast] mo mn
theorem lv:bb Tryz.prog (fun _ _=>1) 123=some dG.raw:=by kernel_rfl
def wF:LSO:=[A3 3 0,Ab 6 0,Af 7,Af 8]
def wE:LSO:=[Ac 14 1 3,Ad 15 1 14,Aa 16 2,Aw 17 38 15 16,Aa 13 17,As 18 13,Au 19 13,Aa 9 18,Aa 10 19]
def wD:LSO:=[Aa 20 10,Ay 21 20]
def wC:LSO:=[Ab 6 0,Af 7,Af 8]
def wB:LSO:=[Aa 23 1,Aa 24 9,o1 25 (.mkfn 132 [(tm 3)]),AD 26 131 23 24 25,Aa 22 26,As 27 22,Au 28 22,Aa 11 27,Aa 12 28]
def wA:LSO:=[Aa 29 11,Aa 30 12,Aa 6 29,Aa 7 30,Ax 8]
def eQ:aW:=⟨31,(.seq (.sreg wF [])
 (.seq (.sreg wE C3)
 (.seq (.seq (.sreg wD Cg)
 (.cond (tm 21) (.seq (.sreg wC [])
 .ret)
 .skip))
 (.seq (.sreg wB C3)
 (.seq (.sreg wA C7)
 .ret))))),[(.tmp 6),(.tmp 7),(.tmp 8)]⟩
attribute [push_cast] wF wE wD wC wB wA
theorem qZ:bb Tryz.prog (fun _ _=>1) 87=some eQ.raw:=by kernel_rfl
def mm:LSO:=[Ab 5 0]
def ml:LSO:=[Ac 9 1 2,Ad 10 1 9,Aa 11 0,Aw 12 38 10 11,Aa 8 12,As 13 8,Au 14 8,Aa 6 13,Aa 7 14]
def mj:LSO:=[Aa 15 6,Aa 16 1,Aw 17 94 15 16,Aa 5 17]
def j5:aW:=⟨18,(.seq (.sreg mm [])
 (.seq (.sreg ml [false,true,false,false,false,false,false,false,false])
 (.seq (.sreg mj Ci)
 .ret))),[(.tmp 5)]⟩
attribute [push_cast] mm ml mj
theorem Hi:bb Tryz.prog (fun _ _=>1) 132=some j5.raw:=by kernel_rfl
def FV:LSO:=[Am 4]
def FU:LSO:=[Aa 8 0,Aa 9 1,Aw 10 78 8 9,Aa 7 10,As 11 7,Au 12 7,Aa 5 11,Aa 6 12]
def FT:LSO:=[Aa 13 6]
def FS:LSO:=[Aa 14 0,Aa 15 5,Aq 16 2 14 15,Ac 17 1 16,Ad 18 1 17,Aj 19 79 18,Aa 4 19]
def FR:LSO:=[Am 4]
def dS:aW:=⟨20,(.seq (.sreg FV [])
 (.seq (.seq (.sreg FU Cs)
 (.seq (.sreg FT [])
 (.cond (tm 13) (.seq (.sreg FS Cl)
 .ret)
 .skip)))
 (.seq (.sreg FR [])
 .ret))),[(.tmp 4)]⟩
attribute [push_cast] FV FU FT FS FR
theorem lw:bb Tryz.prog (fun _ _=>1) 37=some dS.raw:=by kernel_rfl
def FQ:LSO:=[A3 4 0,Af 8]
def FP:LSO:=[Ap 17 2 4,Aa 18 2,Aw 19 36 17 18,Aa 16 19,As 20 16,Au 21 16,Bo 9,Ai 4 9 20,Aa 10 21]
def FO:LSO:=[Aa 23 1,Aa 24 2,Aw 25 78 23 24,Aa 22 25,As 26 22,Au 27 22,Aa 11 26,Aa 12 27]
def FN:LSO:=[Aa 28 10,Ay 29 28,Aa 30 29,.grp none 30 false
 [Ag 31 30 12,AU 32 30 31]
 33 (tm 32)]
def FM:LSO:=[Af 8]
def FL:LSO:=[Ap 35 4 9,Aa 36 1,Aa 37 11,Aq 38 2 36 37,Ac 39 1 38,Ad 40 1 39,Aa 41 3,AD 42 87 35 40 41,Aa 34 42,As 43 34,Au 44 34,Bh 45 34,Aa 13 43,Aa 14 44,Aa 15 45]
def FK:LSO:=[Aa 46 14,Aa 8 46]
def Di:aW:=⟨47,(.seq (.sreg FQ [])
 (.seq (.sreg FP Cs)
 (.seq (.sreg FO Cs)
 (.seq (.seq (.sreg FN Ci)
 (.cond (tm 33) (.seq (.sreg FM [])
 .ret)
 .skip))
 (.seq (.sdreg FL [(.read 0 0),.pure,.pure,(.read 0 0),.pure,(.read 0 0),.pure,(.read 0 0),.pure,.pure,.pure,.pure,.pure,.pure] [false,true,false,false,false,false,false,false,false,false,false,false,false,false,false])
 (.seq (.sreg FK Cg)
 .ret)))))),[(.tmp 8)]⟩
attribute [push_cast] FQ FP FO FN FM FL FK
theorem M7:bb Tryz.prog (fun _ _=>1) 40=some Di.raw:=by kernel_rfl
def sE:LSO:=[A3 2 0,Bo 4,Af 5]
def sD:LSO:=[Ap 6 2 2,o1 7 (.build [(.sl [] 0 (some 0)),(.sl [] 0 (some 0))] [(0,(2,(tm 6)))]),Aa 8 1,Aw 9 77 7 8,As 10 9,Au 11 9,Ai 4 4 10,Aa 5 11]
def mE:aW:=⟨12,(.seq (.sreg sE [])
 (.seq (.sreg sD Cl)
 .ret)),[(.cell true 4 4),(.tmp 5)]⟩
attribute [push_cast] sE sD
theorem J3:bb Tryz.prog (fun _ _=>1) 36=some mE.raw:=by kernel_rfl
def jI:LSO:=[A3 2 0,A3 3 1,Bo 4,Af 5]
def jH:LSO:=[Ac 7 0 2,Ac 8 0 7,Ad 9 1 8,o1 10 (.mkfn 120 [(tm 3)]),Aw 11 119 9 10,Aa 6 11]
def jG:LSO:=[Aa 12 6,AB 13 12 0]
def jF:LSO:=[o1 14 (.build [(.str []),(.int .i64 0),(.bool false),(.bool false)] []),Ai 4 4 14,Af 5]
def jE:LSO:=[Ac 15 0 2,Ac 16 0 15,Ad 17 1 16,Aa 18 6,Aq 19 4 17 18,Ap 20 4 19,Ai 4 4 20,Ax 5]
def eU:aW:=⟨21,(.seq (.sreg jI [])
 (.seq (.sreg jH Ck)
 (.seq (.seq (.sreg jG Cg)
 (.cond (tm 13) (.seq (.sreg jF Cg)
 .ret)
 .skip))
 (.seq (.sreg jE Cl)
 .ret)))),[(.cell true 4 4),(.tmp 5)]⟩
attribute [push_cast] jI jH jG jF jE
theorem wS:bb Tryz.prog (fun _ _=>1) 77=some eU.raw:=by kernel_rfl
def fQ:LSO:=[A3 2 0,Af 3]
def fP:LSO:=[Ac 4 0 2,Ad 5 1 4,Ad 6 1 1,Aw 7 121 5 6,Aa 3 7]
def dQ:aW:=⟨8,(.seq (.sreg fQ [])
 (.seq (.sreg fP Cj)
 .ret)),[(.tmp 3)]⟩
attribute [push_cast] fQ fP
theorem qX:bb Tryz.prog (fun _ _=>1) 120=some dQ.raw:=by kernel_rfl
def sB:LSO:=[Af 4]
def sA:LSO:=[Aa 5 0,Aj 6 61 5,Aa 7 1,Aj 8 61 7,AE 9 6 8,Aa 4 9]
def mD:aW:=⟨10,(.seq (.sreg sB [])
 (.seq (.sreg sA Ck)
 .ret)),[(.tmp 4)]⟩
attribute [push_cast] sB sA
theorem J2:bb Tryz.prog (fun _ _=>1) 121=some mD.raw:=by kernel_rfl
def cz:LSO:=[Ab 4 0]
def cy:LSO:=[Aa 6 0,An 7 6,Ab 8 0]
def cx:LSO:=[Ak 9 8 7]
def cw:LSO:=[Aa 10 8,Aa 5 10]
def cv:LSO:=[Aa 11 1,Aa 12 0,Aa 13 5,Aq 14 4 12 13,Ap 15 4 14,B8 16 11 15]
def cr:LSO:=[Aa 17 5,Aa 4 17]
def cq:LSO:=[Ah 18 8 1,Aa 8 18]
def cn:LSO:=[Ab 4 (-1)]
def bS:aW:=⟨19,(.seq (.sreg cz [])
 (.seq (.seq (.sreg cy Cm)
 (.block 0 (.loop (.seq (.sreg cx [])
 (.seq (.cond (tm 9) .skip
 (.exit 0))
 (.seq (.block 1 (.seq (.sreg cw Cg)
 (.seq (.sreg cv Ck)
 (.cond (tm 16) (.seq (.sreg cr Cg)
 .ret)
 .skip))))
 (.sreg cq Cg)))))))
 (.seq (.sreg cn [])
 .ret))),[(.tmp 4)]⟩
attribute [push_cast] cz cy cx cw cv cr cq cn
theorem dM:bb Tryz.prog (fun _ _=>1) 119=some bS.raw:=by kernel_rfl
def bD:LSO:=[Ab 6 0,Af 7]
def bC:LSO:=[Aa 12 0,An 13 12,Aa 8 13]
def bB:LSO:=[Aa 14 8,Ab 9 0,Aa 10 14]
def bA:LSO:=[Aa 15 9,Aa 16 10,Ak 17 15 16]
def bz:LSO:=[Aa 18 9,Aa 19 10,AP 20 18 19,o1 21 (.conv .u64 (tm 20)),o1 22 (.bin .shr (tm 21) (.av (.int .u64 1))),Bi 23 22,
 Aa 11 23]
def bx:LSO:=[Aa 24 2,Aa 25 0,Aa 26 11,Aq 27 2 25 26,Ap 28 2 27,Aa 29 1,o1 30 (.callv (tm 24) [(tm 28),(tm 29)]),AB 31 30 0]
def bw:LSO:=[Aa 32 11,Ah 33 32 1,Aa 9 33]
def bv:LSO:=[Aa 34 11,Aa 10 34]
def bu:LSO:=[Aa 35 9,Aa 36 9,Aa 37 8,Ak 38 36 37,Aa 39 38,.grp none 39 true
 [Ae 40 39 2,Ae 41 39 0,Ae 42 39 9,Bj 43 39 2 41 42,A6 44 39 2 43,Ae 45 39 1,og 46 39 true (.callv (tm 40) [(tm 44),(tm 45)]),AX 47 39 46 0]
 48 (tm 47),Aa 6 35,Aa 7 48]
def aJ:aW:=⟨49,(.seq (.sreg bD [])
 (.seq (.sreg bC Ch)
 (.seq (.sreg bB Cm)
 (.seq (.block 0 (.loop (.seq (.seq (.sreg bA Ch)
 (.cond (tm 17) .skip
 (.exit 0)))
 (.block 1 (.seq (.sreg bz Cl)
 (.seq (.sreg bx Cp)
 (.cond (tm 31) (.sreg bw Ch)
 (.sreg bv Cg))))))))
 (.seq (.sreg bu Cs)
 .ret))))),[(.tmp 6),(.tmp 7)]⟩
attribute [push_cast] bD bC bB bA bz bx bw bv bu
theorem bq:bb Tryz.prog (fun _ _=>1) 122=some aJ.raw:=by kernel_rfl
def bR:LSO:=[Ab 6 0,Af 7]
def bQ:LSO:=[Aa 12 0,An 13 12,Aa 8 13]
def bP:LSO:=[Aa 14 8,Ab 9 0,Aa 10 14]
def bO:LSO:=[Aa 15 9,Aa 16 10,Ak 17 15 16]
def bN:LSO:=[Aa 18 9,Aa 19 10,AP 20 18 19,o1 21 (.conv .u64 (tm 20)),o1 22 (.bin .shr (tm 21) (.av (.int .u64 1))),Bi 23 22,
 Aa 11 23]
def bM:LSO:=[Aa 24 2,Aa 25 0,Aa 26 11,Aq 27 1 25 26,Ad 28 1 27,Aa 29 1,o1 30 (.callv (tm 24) [(tm 28),(tm 29)]),AB 31 30 0]
def bL:LSO:=[Aa 32 11,Ah 33 32 1,Aa 9 33]
def bK:LSO:=[Aa 34 11,Aa 10 34]
def bJ:LSO:=[Aa 35 9,Aa 36 9,Aa 37 8,Ak 38 36 37,Aa 39 38,.grp none 39 true
 [Ae 40 39 2,Ae 41 39 0,Ae 42 39 9,Bj 43 39 1 41 42,A4 44 39 1 43,Ae 45 39 1,og 46 39 true (.callv (tm 40) [(tm 44),(tm 45)]),AX 47 39 46 0]
 48 (tm 47),Aa 6 35,Aa 7 48]
def aT:aW:=⟨49,(.seq (.sreg bR [])
 (.seq (.sreg bQ Ch)
 (.seq (.sreg bP Cm)
 (.seq (.block 0 (.loop (.seq (.seq (.sreg bO Ch)
 (.cond (tm 17) .skip
 (.exit 0)))
 (.block 1 (.seq (.sreg bN Cl)
 (.seq (.sreg bM Cp)
 (.cond (tm 31) (.sreg bL Ch)
 (.sreg bK Cg))))))))
 (.seq (.sreg bJ Cs)
 .ret))))),[(.tmp 6),(.tmp 7)]⟩
attribute [push_cast] bR bQ bP bO bN bM bL bK bJ
theorem bG:bb Tryz.prog (fun _ _=>1) 131=some aT.raw:=by kernel_rfl
def dr:LSO:=[Am 2]
def dq:LSO:=[Aa 3 0,o1 4 (.slnil false (tm 3))]
def dp:LSO:=[Am 2]
def dm:LSO:=[o1 5 (.bslice false 1 0 [] []),Aa 6 0,o1 7 (.app 2 1 16 [(.str [])] (tm 5) (tm 6)),Aa 2 7]
def bp:aW:=⟨8,(.seq (.sreg dr [])
 (.seq (.seq (.sreg dq Cg)
 (.cond (tm 4) (.seq (.sreg dp [])
 .ret)
 .skip))
 (.seq (.sreg dm Ci)
 .ret))),[(.tmp 2)]⟩
attribute [push_cast] dr dq dp dm
theorem di:bb Tryz.prog (fun r i=>if r=3∧i=2 then 2 else 1) 79=some bp.raw:=by kernel_rfl
set_option maxHeartbeats 8000000
set_option maxRecDepth 100000
def Td (L:List Blk) (C:List AV) (n s:Nat) (v:AV):Prop:=(∃ cap,v=.sl C n cap)∨∃ i cp rest,v=.lsl i 0 n cp s∧L[i]?=some (.cells (C++rest))
def Yt (f:FuncId) (caps:List AV) (L:List Blk) (el:Nat→AV) (tg:AV) (n:Nat) (c:Nat→Int):Prop:=∀ (h:Nat) (K:AV→List Blk→Prop),h<n→K (.int .i64 (c h)) L→ad Tryz.prog f ([el h,tg]++caps) L K
theorem Yi {f:FuncId} {caps C:List AV} {n m:Nat} {tg v:AV} {c:Nat→Int} {L:List Blk} (hn:n≤1100000) (hC:C.length=n * 2) (hm:m≤n) (hrow:Td L C n 2 v) (hf:Yt f caps L (fun h=>.agg ((C.drop (h * 2)).take 2)) tg n c) (hc:∀ h,h<n→(c h<0↔h<m))
   {K:AV→List Blk→Prop} (h:K (.tup [.int .i64 (m:Nat),.bool (decide (m<n) && decide (c m=0))]) L) :
   ad Tryz.prog 122 [v,tg,.func f caps] L K:=by
 replace h:=hid h
 replace hf:=hid hf
 replace hc:=hid hc
 rcases hrow with ⟨cap,rfl⟩|⟨bi,cp,rest,rfl,hL⟩
 · refine ae bq (by simp [aJ]) ?_
   simp only [aJ,ar]
   refine wk ?_
   refine am (fun q T' L'=>∃ a b:Nat,q=b - a∧a≤m∧m≤b∧b≤n∧T'=[(10,.int .i64 (b:Int)),(9,.int .i64 (a:Int)),(8,.int .i64 (n:Nat)),(0,.sl C n cap),(1,tg),(2,.func f caps)]∧L=L') (CutS (b:=Nat.le_refl _)) ⟨0,n,rfl,Nat.zero_le _,hm,Nat.le_refl _,rfl,rfl⟩ ?_
   rintro _ _ L' ⟨a,b,rfl,ham,hmb,hb,rfl,e⟩
   subst e
   by_cases hlt:a<b
   · have g1:(a:Int)<(b:Int):=by omega
     obtain ⟨z,hz⟩:∃ z,z=(a+b) / 2:=⟨_,rfl⟩
     have g2:IntKind.i64.wrap ((a:Int)+b)=(a:Int)+b:=ac (by omega) (by omega)
     have g3:IntKind.u64.wrap ((a:Int)+b)=(a:Int)+b:=rd (by omega) (by omega)
     have g4:Int.fdiv ((a:Int)+b) (2 ^ (min 1 IntKind.u64.bits))=(z:Int):=by
       have:(2:Int) ^ (min 1 IntKind.u64.bits)=2:=by decide
       rw [this,Int.fdiv_eq_ediv_of_nonneg _ (by omega)];omega
     have g5:IntKind.i64.wrap (z:Int)=z:=ac (by omega) (by omega)
     have g6:IntKind.i64.wrap ((z:Int)+1)=(z:Int)+1:=ac (by omega) (by omega)
     have g8:a≤z∧z<b:=by omega
     have g9:(z:Int)<(n:Int):=by omega
     have hzn:z<n:=by omega
     have hcz:=hc.out z hzn
     have e2:z * 2+2≤C.length:=by omega
     replace g8:=hid g8
     replace hcz:=hid hcz
     replace hC:=hid hC
     clear hz
     refine wk ?_
     refine hf.out z _ hzn ?_
     refine sk ?_
     obtain ⟨w,hw⟩:∃ w,c z=w:=⟨_,rfl⟩
     rw [hw] at hcz
     simp only [hw]
     by_cases hneg:w<0
     · have hzm:=hcz.out.1 hneg
       clear hcz hw
       have hg8:=g8.out
       refine wk ?_
       exact ak _ _ _ (by omega) (CutL (b:=by simp)) ⟨z+1,b,rfl,hzm,hmb,hb,rfl,rfl⟩
     · have hzm:m≤z:=by
         rcases Nat.lt_or_ge z m with e|e
         · exact absurd (hcz.out.2 e) hneg
         · exact e
       clear hcz hw
       have hg8:=g8.out
       refine wk ?_
       exact ak _ _ _ (by omega) (CutL (b:=by simp)) ⟨a,z,rfl,ham,hzm,by omega,rfl,rfl⟩
   obtain rfl:a=m:=by omega
   obtain rfl:b=a:=by omega
   have g1:¬ (b:Int)<(b:Int):=by omega
   by_cases hbn:b<n
   · have g2:(b:Int)<(n:Int):=by omega
     have h':=h.out
     rw [decide_eq_true hbn,Bool.true_and] at h'
     obtain ⟨w,hw⟩:∃ w,c b=w:=⟨_,rfl⟩
     rw [hw] at h'
     replace h':=hid h'
     have e2:b * 2+2≤C.length:=by omega
     replace hC:=hid hC
     have kk1:Hid (∀ {K:AV→List Blk→Prop},K (.int .i64 w) L→ad Tryz.prog f (AV.agg ((C.drop (b * 2)).take 2)::tg::caps) L K):=hid fun q=>hf.out b _ hbn (by rw [hw];exact q)
     refine wk ?_
     exact aa h'.out
   · have g2:¬ (b:Int)<(n:Int):=by omega
     have h':=h.out
     rw [decide_eq_false hbn,Bool.false_and] at h'
     replace h':=hid h'
     refine wk ?_
     exact aa h'.out
 · refine ae bq (by simp [aJ]) ?_
   simp only [aJ,ar]
   refine wk ?_
   refine am (fun q T' L'=>∃ a b:Nat,q=b - a∧a≤m∧m≤b∧b≤n∧T'=[(10,.int .i64 (b:Int)),(9,.int .i64 (a:Int)),(8,.int .i64 (n:Nat)),(0,.lsl bi 0 n cp 2),(1,tg),(2,.func f caps)]∧L=L') (CutS (b:=Nat.le_refl _)) ⟨0,n,rfl,Nat.zero_le _,hm,Nat.le_refl _,rfl,rfl⟩ ?_
   rintro _ _ L' ⟨a,b,rfl,ham,hmb,hb,rfl,e⟩
   subst e
   by_cases hlt:a<b
   · have g1:(a:Int)<(b:Int):=by omega
     obtain ⟨z,hz⟩:∃ z,z=(a+b) / 2:=⟨_,rfl⟩
     have g2:IntKind.i64.wrap ((a:Int)+b)=(a:Int)+b:=ac (by omega) (by omega)
     have g3:IntKind.u64.wrap ((a:Int)+b)=(a:Int)+b:=rd (by omega) (by omega)
     have g4:Int.fdiv ((a:Int)+b) (2 ^ (min 1 IntKind.u64.bits))=(z:Int):=by
       have:(2:Int) ^ (min 1 IntKind.u64.bits)=2:=by decide
       rw [this,Int.fdiv_eq_ediv_of_nonneg _ (by omega)];omega
     have g5:IntKind.i64.wrap (z:Int)=z:=ac (by omega) (by omega)
     have g6:IntKind.i64.wrap ((z:Int)+1)=(z:Int)+1:=ac (by omega) (by omega)
     have g8:a≤z∧z<b:=by omega
     have g9:(z:Int)<(n:Int):=by omega
     have hzn:z<n:=by omega
     have hcz:=hc.out z hzn
     have e1:((C++rest).drop (z * 2)).take 2=(C.drop (z * 2)).take 2:=by
       rw [List.drop_append_of_le_length (by omega),List.take_append_of_le_length (by simp;omega)]
     have e2:z * 2+2≤C.length+rest.length:=by omega
     replace g8:=hid g8
     replace hcz:=hid hcz
     replace hC:=hid hC
     clear hz
     refine wk ?_
     refine hf.out z _ hzn ?_
     refine sk ?_
     obtain ⟨w,hw⟩:∃ w,c z=w:=⟨_,rfl⟩
     rw [hw] at hcz
     simp only [hw]
     by_cases hneg:w<0
     · have hzm:=hcz.out.1 hneg
       clear hcz hw
       have hg8:=g8.out
       refine wk ?_
       exact ak _ _ _ (by omega) (CutL (b:=by simp)) ⟨z+1,b,rfl,hzm,hmb,hb,rfl,rfl⟩
     · have hzm:m≤z:=by
         rcases Nat.lt_or_ge z m with e|e
         · exact absurd (hcz.out.2 e) hneg
         · exact e
       clear hcz hw
       have hg8:=g8.out
       refine wk ?_
       exact ak _ _ _ (by omega) (CutL (b:=by simp)) ⟨a,z,rfl,ham,hzm,by omega,rfl,rfl⟩
   obtain rfl:a=m:=by omega
   obtain rfl:b=a:=by omega
   have g1:¬ (b:Int)<(b:Int):=by omega
   by_cases hbn:b<n
   · have g2:(b:Int)<(n:Int):=by omega
     have h':=h.out
     rw [decide_eq_true hbn,Bool.true_and] at h'
     obtain ⟨w,hw⟩:∃ w,c b=w:=⟨_,rfl⟩
     rw [hw] at h'
     replace h':=hid h'
     have e1:((C++rest).drop (b * 2)).take 2=(C.drop (b * 2)).take 2:=by
       rw [List.drop_append_of_le_length (by omega),List.take_append_of_le_length (by simp;omega)]
     have e2:b * 2+2≤C.length+rest.length:=by omega
     replace hC:=hid hC
     have kk1:Hid (∀ {K:AV→List Blk→Prop},K (.int .i64 w) L→ad Tryz.prog f (AV.agg ((C.drop (b * 2)).take 2)::tg::caps) L K):=hid fun q=>hf.out b _ hbn (by rw [hw];exact q)
     refine wk ?_
     exact aa h'.out
   · have g2:¬ (b:Int)<(n:Int):=by omega
     have h':=h.out
     rw [decide_eq_false hbn,Bool.false_and] at h'
     replace h':=hid h'
     refine wk ?_
     exact aa h'.out
theorem Yh {f:FuncId} {caps C:List AV} {n m:Nat} {tg v:AV} {c:Nat→Int} {L:List Blk} (hn:n≤1100000) (hC:C.length=n * 1) (hm:m≤n) (hrow:Td L C n 1 v) (hf:Yt f caps L (fun h=>C.getD h .undef) tg n c) (hc:∀ h,h<n→(c h<0↔h<m))
   {K:AV→List Blk→Prop} (h:K (.tup [.int .i64 (m:Nat),.bool (decide (m<n) && decide (c m=0))]) L) :
   ad Tryz.prog 131 [v,tg,.func f caps] L K:=by
 replace h:=hid h
 replace hf:=hid hf
 replace hc:=hid hc
 rcases hrow with ⟨cap,rfl⟩|⟨bi,cp,rest,rfl,hL⟩
 · refine ae bG (by simp [aT]) ?_
   simp only [aT,ar]
   refine wk ?_
   refine am (fun q T' L'=>∃ a b:Nat,q=b - a∧a≤m∧m≤b∧b≤n∧T'=[(10,.int .i64 (b:Int)),(9,.int .i64 (a:Int)),(8,.int .i64 (n:Nat)),(0,.sl C n cap),(1,tg),(2,.func f caps)]∧L=L') (CutS (b:=Nat.le_refl _)) ⟨0,n,rfl,Nat.zero_le _,hm,Nat.le_refl _,rfl,rfl⟩ ?_
   rintro _ _ L' ⟨a,b,rfl,ham,hmb,hb,rfl,e⟩
   subst e
   by_cases hlt:a<b
   · have g1:(a:Int)<(b:Int):=by omega
     obtain ⟨z,hz⟩:∃ z,z=(a+b) / 2:=⟨_,rfl⟩
     have g2:IntKind.i64.wrap ((a:Int)+b)=(a:Int)+b:=ac (by omega) (by omega)
     have g3:IntKind.u64.wrap ((a:Int)+b)=(a:Int)+b:=rd (by omega) (by omega)
     have g4:Int.fdiv ((a:Int)+b) (2 ^ (min 1 IntKind.u64.bits))=(z:Int):=by
       have:(2:Int) ^ (min 1 IntKind.u64.bits)=2:=by decide
       rw [this,Int.fdiv_eq_ediv_of_nonneg _ (by omega)];omega
     have g5:IntKind.i64.wrap (z:Int)=z:=ac (by omega) (by omega)
     have g6:IntKind.i64.wrap ((z:Int)+1)=(z:Int)+1:=ac (by omega) (by omega)
     have g8:a≤z∧z<b:=by omega
     have g9:(z:Int)<(n:Int):=by omega
     have hzn:z<n:=by omega
     have hcz:=hc.out z hzn
     have e2:z<C.length:=by omega
     replace g8:=hid g8
     replace hcz:=hid hcz
     replace hC:=hid hC
     clear hz
     refine wk ?_
     refine hf.out z _ hzn ?_
     refine sk ?_
     obtain ⟨w,hw⟩:∃ w,c z=w:=⟨_,rfl⟩
     rw [hw] at hcz
     simp only [hw]
     by_cases hneg:w<0
     · have hzm:=hcz.out.1 hneg
       clear hcz hw
       have hg8:=g8.out
       refine wk ?_
       exact ak _ _ _ (by omega) (CutL (b:=by simp)) ⟨z+1,b,rfl,hzm,hmb,hb,rfl,rfl⟩
     · have hzm:m≤z:=by
         rcases Nat.lt_or_ge z m with e|e
         · exact absurd (hcz.out.2 e) hneg
         · exact e
       clear hcz hw
       have hg8:=g8.out
       refine wk ?_
       exact ak _ _ _ (by omega) (CutL (b:=by simp)) ⟨a,z,rfl,ham,hzm,by omega,rfl,rfl⟩
   obtain rfl:a=m:=by omega
   obtain rfl:b=a:=by omega
   have g1:¬ (b:Int)<(b:Int):=by omega
   by_cases hbn:b<n
   · have g2:(b:Int)<(n:Int):=by omega
     have h':=h.out
     rw [decide_eq_true hbn,Bool.true_and] at h'
     obtain ⟨w,hw⟩:∃ w,c b=w:=⟨_,rfl⟩
     rw [hw] at h'
     replace h':=hid h'
     have e2:b<C.length:=by omega
     replace hC:=hid hC
     have kk1:Hid (∀ {K:AV→List Blk→Prop},K (.int .i64 w) L→ad Tryz.prog f (C.getD b .undef::tg::caps) L K):=hid fun q=>hf.out b _ hbn (by rw [hw];exact q)
     refine wk ?_
     exact aa h'.out
   · have g2:¬ (b:Int)<(n:Int):=by omega
     have h':=h.out
     rw [decide_eq_false hbn,Bool.false_and] at h'
     replace h':=hid h'
     refine wk ?_
     exact aa h'.out
 · refine ae bG (by simp [aT]) ?_
   simp only [aT,ar]
   refine wk ?_
   refine am (fun q T' L'=>∃ a b:Nat,q=b - a∧a≤m∧m≤b∧b≤n∧T'=[(10,.int .i64 (b:Int)),(9,.int .i64 (a:Int)),(8,.int .i64 (n:Nat)),(0,.lsl bi 0 n cp 1),(1,tg),(2,.func f caps)]∧L=L') (CutS (b:=Nat.le_refl _)) ⟨0,n,rfl,Nat.zero_le _,hm,Nat.le_refl _,rfl,rfl⟩ ?_
   rintro _ _ L' ⟨a,b,rfl,ham,hmb,hb,rfl,e⟩
   subst e
   by_cases hlt:a<b
   · have g1:(a:Int)<(b:Int):=by omega
     obtain ⟨z,hz⟩:∃ z,z=(a+b) / 2:=⟨_,rfl⟩
     have g2:IntKind.i64.wrap ((a:Int)+b)=(a:Int)+b:=ac (by omega) (by omega)
     have g3:IntKind.u64.wrap ((a:Int)+b)=(a:Int)+b:=rd (by omega) (by omega)
     have g4:Int.fdiv ((a:Int)+b) (2 ^ (min 1 IntKind.u64.bits))=(z:Int):=by
       have:(2:Int) ^ (min 1 IntKind.u64.bits)=2:=by decide
       rw [this,Int.fdiv_eq_ediv_of_nonneg _ (by omega)];omega
     have g5:IntKind.i64.wrap (z:Int)=z:=ac (by omega) (by omega)
     have g6:IntKind.i64.wrap ((z:Int)+1)=(z:Int)+1:=ac (by omega) (by omega)
     have g8:a≤z∧z<b:=by omega
     have g9:(z:Int)<(n:Int):=by omega
     have hzn:z<n:=by omega
     have hcz:=hc.out z hzn
     have e1:(C++rest).getD z .undef=C.getD z .undef:=by
       rw [List.getD_eq_getElem?_getD,List.getElem?_append_left (by omega)];rfl
     have e2:z<C.length+rest.length:=by omega
     replace g8:=hid g8
     replace hcz:=hid hcz
     replace hC:=hid hC
     clear hz
     refine wk ?_
     refine hf.out z _ hzn ?_
     refine sk ?_
     obtain ⟨w,hw⟩:∃ w,c z=w:=⟨_,rfl⟩
     rw [hw] at hcz
     simp only [hw]
     by_cases hneg:w<0
     · have hzm:=hcz.out.1 hneg
       clear hcz hw
       have hg8:=g8.out
       refine wk ?_
       exact ak _ _ _ (by omega) (CutL (b:=by simp)) ⟨z+1,b,rfl,hzm,hmb,hb,rfl,rfl⟩
     · have hzm:m≤z:=by
         rcases Nat.lt_or_ge z m with e|e
         · exact absurd (hcz.out.2 e) hneg
         · exact e
       clear hcz hw
       have hg8:=g8.out
       refine wk ?_
       exact ak _ _ _ (by omega) (CutL (b:=by simp)) ⟨a,z,rfl,ham,hzm,by omega,rfl,rfl⟩
   obtain rfl:a=m:=by omega
   obtain rfl:b=a:=by omega
   have g1:¬ (b:Int)<(b:Int):=by omega
   by_cases hbn:b<n
   · have g2:(b:Int)<(n:Int):=by omega
     have h':=h.out
     rw [decide_eq_true hbn,Bool.true_and] at h'
     obtain ⟨w,hw⟩:∃ w,c b=w:=⟨_,rfl⟩
     rw [hw] at h'
     replace h':=hid h'
     have e1:(C++rest).getD b .undef=C.getD b .undef:=by
       rw [List.getD_eq_getElem?_getD,List.getElem?_append_left (by omega)];rfl
     have e2:b<C.length+rest.length:=by omega
     replace hC:=hid hC
     have kk1:Hid (∀ {K:AV→List Blk→Prop},K (.int .i64 w) L→ad Tryz.prog f (C.getD b .undef::tg::caps) L K):=hid fun q=>hf.out b _ hbn (by rw [hw];exact q)
     refine wk ?_
     exact aa h'.out
   · have g2:¬ (b:Int)<(n:Int):=by omega
     have h':=h.out
     rw [decide_eq_false hbn,Bool.false_and] at h'
     replace h':=hid h'
     refine wk ?_
     exact aa h'.out
variable {L:List Blk} {K:AV→List Blk→Prop}
theorem S2 {cap:Option Nat} (h:K (.sl [] 0 (some 0)) L):ad Tryz.prog 79 [.sl [] 0 cap] L K:=by
 refine ae di (by simp [bp]) ?_
 simp only [bp,ar]
 repeat' first
   | refine a8 ?_
   | (first|refine aP (by kernel_rfl) ?_|refine aB (by kernel_rfl) ?_|refine aC ?_|refine bj ?_|refine aX (fun _=>?_)|refine ay ?_|refine aS ?_)
     refine sm ?_
   | (first|refine aL (by kernel_rfl) ?_|refine aQ ?_|refine aR ?_|refine ba (ax ?_))
     refine sl ?_
   | exact aY
   | first|apply aZ|apply aM|apply a6|apply aN|apply a7|apply aO
   | refine aF ?_
   | first|refine aD rfl ?_|refine aE rfl ?_|refine ap rfl ?_ ?_|refine aH rfl (fun _=>?_) (fun _=>?_)|refine aG rfl (fun _=>?_) (fun _=>?_)
   | ((first|refine ao (fun _=>?_) (fun _=>?_)|refine aw (fun _=>?_) (fun _=>?_))<;>try refine sm ?_)
   | refine And.intro trivial ?_
   | refine And.intro (by omega) ?_
   | refine aI rfl (fun _=>?_) (fun _=>?_)
   | refine And.intro ?_ ?_
 all_goals (first|refine ab rfl (Kto h ?_)|refine aa (Kto h ?_)|refine ab (by simp only [AV.refs,AV.refsL, *];rfl) (Kto h ?_)|refine bE (ab rfl (Kto h ?_))|(trace_state;fail))
 all_goals (first|(simp [*];done)|(simp [*];omega)|(simp [*];intros;omega)|(simp_all [Hid,Hid];done)|(simp_all [Hid,Hid];omega))
theorem U3 {xs:List (List UInt8)} {cap:Option Nat} (h0:xs.length≠0) (hn:xs.length≤1100000) (h:K (.lsl L.length 0 xs.length none 1) (L++[.cells (xs.map AV.str)])) :
   ad Tryz.prog 79 [.sl (xs.map AV.str) xs.length cap] L K:=by
 have h1:=Pt xs
 refine ae di (by simp [bp]) ?_
 simp only [bp,ar]
 repeat' first
   | refine a8 ?_
   | (first|refine aP (by kernel_rfl) ?_|refine aB (by kernel_rfl) ?_|refine aC ?_|refine bj ?_|refine aX (fun _=>?_)|refine ay ?_|refine aS ?_)
     refine sm ?_
   | (first|refine aL (by kernel_rfl) ?_|refine aQ ?_|refine aR ?_|refine ba (ax ?_))
     refine sl ?_
   | exact aY
   | first|apply aZ|apply aM|apply a6|apply aN|apply a7|apply aO
   | refine aF ?_
   | first|refine aD rfl ?_|refine aE rfl ?_|refine ap rfl ?_ ?_|refine aH rfl (fun _=>?_) (fun _=>?_)|refine aG rfl (fun _=>?_) (fun _=>?_)
   | ((first|refine ao (fun _=>?_) (fun _=>?_)|refine aw (fun _=>?_) (fun _=>?_))<;>try refine sm ?_)
   | refine And.intro trivial ?_
   | refine And.intro (by omega) ?_
   | refine aI rfl (fun _=>?_) (fun _=>?_)
   | refine And.intro ?_ ?_
 refine WG L.length (.cells (xs.map AV.str)) rfl (Nat.le_refl _) (by simp) (by simp [AV.refs]) (kD _ _) ?_
 simpa [AV.ren] using h
abbrev bf (s:List UInt8):Prop:=(s.length:Int)≤140737488351232
theorem P8 (a b:List UInt8):Lib.compareBytes a b<0↔a<b:=by
 rw [OX]
 by_cases h:a<b
 · simp [h]
 · by_cases h2:b<a<;>simp [h,h2]
theorem Oe (a b:List UInt8):Lib.compareBytes a b=0↔a=b:=by
 rw [OX]
 by_cases h:a<b
 · simp only [h,if_true]
   exact ⟨fun e=>by omega,fun e=>by subst e;exact absurd h (List.lt_irrefl _)⟩
 · by_cases h2:b<a
   · simp only [h,h2,if_true,if_false]
     exact ⟨fun e=>by omega,fun e=>by subst e;exact absurd h2 (List.lt_irrefl _)⟩
   · simp only [h,h2,if_false,true_iff]
     exact List.le_antisymm (List.not_lt.1 h2) (List.not_lt.1 h)
def WV (w:AV):Prop:=(∃ l n cap,w=.sl l n cap)∨∃ i off n cp s,w=.lsl i off n cp s
theorem TW {x n:List UInt8} {w:AV} (hx:bf x) (hw:WV w) (h:K (.int .i64 (Lib.compareBytes (ah x) n)) L) :
   ad Tryz.prog 123 [.agg [.str x,w],.str n] L K:=by
 replace h:=hid h
 rcases hw with ⟨l,m,cap,rfl⟩|⟨i,off,m,cp,s,rfl⟩
 · refine ae lv (by simp [dG]) ?_
   simp only [dG,ar]
   have kk1:=@hid _ (fun L K=>mu hx (L:=L) (K:=K))
   have kk2:=@hid _ @kN
   refine wk ?_
   exact ab rfl h.out
 · refine ae lv (by simp [dG]) ?_
   simp only [dG,ar]
   have kk1:=@hid _ (fun L K=>mu hx (L:=L) (K:=K))
   have kk2:=@hid _ @kN
   refine wk ?_
   exact ab rfl h.out
def Yu (l:List Atr) (C:List AV):Prop:=C.length=l.length * 2∧∀ h:Nat,h<l.length→∃ w,WV w∧(C.drop (h * 2)).take 2=[.str (l.getD h ([],[])).1,w]
def OQ {α:Type} (key:α→List UInt8) (l:List α) (k:List UInt8):Bool:=l.any fun a=>decide (key a=k)
theorem MM {α:Type} {key:α→List UInt8} {l:List α} {k:List UInt8} (hr:jS key l) {d:α}:OQ key l k=(decide (dK key l k<l.length) && decide (key (l.getD (dK key l k) d)=k)):=by
 rw [OQ,SZ hr]
 by_cases hc:dK key l k<l.length
 · rw [List.getElem?_eq_getElem hc,decide_eq_true hc,Bool.true_and]
   simp [hc]
 · rw [List.getElem?_eq_none (by omega),decide_eq_false hc]
   rfl
theorem RE {l:List Atr} {C:List AV} {v:AV} {n:List UInt8} {L:List Blk} (hl:l.length≤1100000) (hC:Yu l C) (hrow:Td L C l.length 2 v) (hr:jS db l) (hn:bf n) (hz:∀ a∈l,bf a.1)
   {K:AV→List Blk→Prop} (h:K (.tup [.int .i64 (dK db l (ah n):Nat),.bool (OQ db l (ah n))]) L) :
   ad Tryz.prog 78 [v,.str n] L K:=by
 have hbs:∀ {K:AV→List Blk→Prop},K (.tup [.int .i64 (dK db l (ah n):Nat),.bool (OQ db l (ah n))]) L→ad Tryz.prog 122 [v,.str (ah n),.func 123 []] L K:=fun {K} q=>by
   refine Yi (m:=dK db l (ah n)) (c:=fun h=>Lib.compareBytes (db (l.getD h ([],[]))) (ah n)) hl hC.1 (OW _ _ _) hrow (fun h K hh hk=>?_) (fun h hh=>?_) ?_
   · obtain ⟨w,hw,e⟩:=hC.2 h hh
     simp only [e]
     refine TW (hz _ ?_) hw hk
     simp [hh]
   · simp only [P8]
     have:=Rg (key:=db) (k:=ah n) hr h hh
     simpa [hh] using this
   · have:=MM (key:=db) (k:=ah n) hr (d:=([],[]))
     rw [this] at q
     simpa only [Oe] using q
 replace hbs:=@hid _ @hbs
 replace h:=hid h
 rcases hrow with ⟨cap,rfl⟩|⟨bi,cp,rest,rfl,hL⟩
 · refine ae q0 (by simp [eR]) ?_
   simp only [eR,ar]
   have kk2:=@hid _ @hbs.out
   have kk1:=@hid _ (fun L K=>mu hn (L:=L) (K:=K))
   refine wk ?_
   exact aa h.out
 · refine ae q0 (by simp [eR]) ?_
   simp only [eR,ar]
   have kk2:=@hid _ @hbs.out
   have kk1:=@hid _ (fun L K=>mu hn (L:=L) (K:=K))
   refine wk ?_
   exact aa h.out
abbrev tyC (ty:Typ):List AV:=[.str ty.1,.int .i64 ty.2.1,.bool ty.2.2.1,.bool ty.2.2.2]
theorem ST {x n:List UInt8} {ty:Typ} {p:Nat} {L:List Blk} (hp:L[p]?=some (.cells (tyC ty))) {K:AV→List Blk→Prop} (h:K (.int .i64 (Lib.compareBytes (dj ty.2.1 x) n)) L) :
   ad Tryz.prog 132 [.str x,.str n,.ptr p 0] L K:=by
 unfold dj at h
 refine ae Hi (by simp [j5]) ?_
 simp only [j5,ar]
 refine wk ?_
 refine dN ?_
 rcases hm:bU ty.2.1 x with _|m
 all_goals rw [hm] at h
 · replace h:Hid (K (.int .i64 (Lib.compareBytes [] n)) L):=hid h
   simp only [fD]
   refine sk ?_
   have kk1:=@hid _ @kN
   refine wk ?_
   exact aa h.out
 · replace h:Hid (K (.int .i64 (Lib.compareBytes m n)) L):=hid h
   simp only [fD]
   refine sk ?_
   have kk1:=@hid _ @kN
   refine wk ?_
   exact aa h.out
def Vz (syn:Int) (l:List (List UInt8)) (v:List UInt8):AV:=match bU syn v with
 | none=>.tup [.int .i64 0,.bool false,.bool false]
 | some n=>.tup [.int .i64 (dK (dj syn) l n:Nat),.bool (OQ (dj syn) l n),.bool true]
theorem UZ {ty:Typ} {l:List (List UInt8)} {w:AV} {v:List UInt8} {L:List Blk} (hl:l.length≤1100000) (hrow:Td L (l.map AV.str) l.length 1 w) (hr:jS (dj ty.2.1) l) {K:AV→List Blk→Prop} (h:K (Vz ty.2.1 l v) L) :
   ad Tryz.prog 87 [.agg (tyC ty),w,.str v] L K:=by
 have hbs:∀ (X:List Blk) (n:List UInt8) {K:AV→List Blk→Prop},K (.tup [.int .i64 (dK (dj ty.2.1) l n:Nat),.bool (OQ (dj ty.2.1) l n)]) (L++(.cells (tyC ty)::X))→ad Tryz.prog 131 [w,.str n,.func 132 [.ptr L.length 0]] (L++(.cells (tyC ty)::X)) K:=fun X n {K} q=>by
   have hrow':Td (L++(.cells (tyC ty)::X)) (l.map AV.str) l.length 1 w:=by
     rcases hrow with ⟨cap,rfl⟩|⟨bi,cp,rest,rfl,hL⟩
     · exact .inl ⟨cap,rfl⟩
     · exact .inr ⟨bi,cp,rest,rfl,by rw [List.getElem?_append_left (List.getElem?_eq_some_iff.1 hL).1];exact hL⟩
   refine Yh (m:=dK (dj ty.2.1) l n) (c:=fun h=>Lib.compareBytes (dj ty.2.1 (l.getD h [])) n) hl (by simp) (OW _ _ _) hrow' (fun h K hh hk=>?_) (fun h hh=>?_) ?_
   · have e:(l.map AV.str).getD h .undef=.str (l.getD h []):=by simp [hh]
     simp only [e]
     exact ST (by rw [List.getElem?_append_right (Nat.le_refl _),Nat.sub_self];rfl) hk
   · simp only [P8]
     have:=Rg (key:=dj ty.2.1) (k:=n) hr h hh
     simpa [hh] using this
   · have:=MM (key:=dj ty.2.1) (k:=n) hr (d:=[])
     rw [this] at q
     simpa only [Oe] using q
 replace hbs:=@hid _ @hbs
 unfold Vz at h
 rcases hrow with ⟨cap,rfl⟩|⟨bi,cp,rest,rfl,hL⟩
 · refine ae qZ (by simp [eQ]) ?_
   simp only [eQ,ar]
   refine wk ?_
   refine dN ?_
   rcases hn:bU ty.2.1 v with _|n
   · rw [hn] at h
     simp only at h
     replace h:=hid h
     simp only [fD]
     refine sk ?_
     refine wk ?_
     exact ab rfl h.out
   · rw [hn] at h
     simp only at h
     replace h:=hid h
     simp only [fD]
     refine sk ?_
     refine wk ?_
     refine hbs.out [] n ?_
     refine sk ?_
     refine wk ?_
     exact ab rfl h.out
 · refine ae qZ (by simp [eQ]) ?_
   simp only [eQ,ar]
   refine wk ?_
   refine dN ?_
   rcases hn:bU ty.2.1 v with _|n
   · rw [hn] at h
     simp only at h
     replace h:=hid h
     simp only [fD]
     refine sk ?_
     refine wk ?_
     exact ab rfl h.out
   · rw [hn] at h
     simp only at h
     replace h:=hid h
     simp only [fD]
     refine sk ?_
     refine wk ?_
     refine hbs.out [] n ?_
     refine sk ?_
     refine wk ?_
     exact ab rfl h.out
def bc (ts:List Typ):List AV:=ts.flatMap tyC
theorem jw (ts:List Typ):(bc ts).length=ts.length * 4:=by
 induction ts with
 | nil=>rfl
 | cons a l ih=>simp only [bc,List.flatMap_cons,List.length_append,tyC,List.length_cons,List.length_nil] at ih ⊢;omega
abbrev iy:Typ:=([],0,false,false)
theorem kz:∀ {ts:List Typ} {k:Nat},k<ts.length→((bc ts).drop (k * 4)).take 4=tyC (ts.getD k iy)
 | a::l,0,_=>rfl
 | a::l,k+1,h=>by
   have ih:=@kz l k (by simpa using h)
   rw [show (k+1) * 4=k * 4+1+1+1+1 by omega]
   simpa [bc,tyC] using ih
theorem Xi {a b:List UInt8} (ha:bf a) (hb:bf b) (h:K (.bool (decide (ah a=ah b))) L):ad Tryz.prog 121 [.str a,.str b] L K:=by
 replace h:=hid h
 refine ae J2 (by simp [mD]) ?_
 simp only [mD,ar]
 have kk1:=@hid _ (fun L K=>mu ha (L:=L) (K:=K))
 have kk2:=@hid _ (fun L K=>mu hb (L:=L) (K:=K))
 refine wk ?_
 exact aa h.out
theorem V8 {ty:Typ} {n:List UInt8} {p:Nat} (ha:bf ty.1) (hn:bf n) {L:List Blk} (hp:L[p]?=some (.cells [.str n])) {K:AV→List Blk→Prop} (h:K (.bool (decide (ah ty.1=ah n))) L) :
   ad Tryz.prog 120 [.agg (tyC ty),.ptr p 0] L K:=by
 replace h:=hid h
 have hp2:∀ X:List Blk,(L++X)[p]?=some (.cells [.str n]):=fun X=>by
   rw [List.getElem?_append_left (List.getElem?_eq_some_iff.1 hp).1];exact hp
 refine ae qX (by simp [dQ]) ?_
 simp only [dQ,ar]
 have kk1:=@hid _ (fun L K=>Xi ha hn (L:=L) (K:=K))
 refine wk ?_
 exact ab rfl h.out
theorem Xo {f:FuncId} {caps:List AV} {ts:List Typ} {cap:Option Nat} {q:Typ→Bool} {L:List Blk} (hn:ts.length≤1100000) (hf:∀ (ty:Typ) (K:AV→List Blk→Prop),ty∈ts→K (.bool (q ty)) L→ad Tryz.prog f (.agg (tyC ty)::caps) L K)
   {K:AV→List Blk→Prop} (h1:(∀ ty∈ts,q ty=false)→K (.int .i64 (-1)) L) (h2:∀ k:Nat,k<ts.length→(∀ j,j<k→q (ts.getD j iy)=false)→q (ts.getD k iy)=true→K (.int .i64 k) L) :
   ad Tryz.prog 119 [.sl (bc ts) ts.length cap,.func f caps] L K:=by
 replace hf:=hid hf
 replace h1:=hid h1
 replace h2:=hid h2
 refine ae dM (by simp [bS]) ?_
 simp only [bS,ar]
 refine wk ?_
 refine am (fun n T' L'=>∃ k:Nat,n=ts.length - k∧k≤ts.length∧T'=[(8,.int .i64 (k:Int)),(7,.int .i64 ts.length),(0,.sl (bc ts) ts.length cap),(1,.func f caps)]∧L=L' ∧
   ∀ j,j<k→q (ts.getD j iy)=false) (CutS (b:=Nat.le_refl _)) ⟨0,rfl,Nat.zero_le _,rfl,rfl,by simp⟩ ?_
 rintro _ _ L' ⟨k,rfl,hk,rfl,e,hr⟩
 subst e
 replace hr:=hid hr
 by_cases hlt:k<ts.length
 · have g1:(k:Int)<(ts.length:Int):=by omega
   have g2:IntKind.i64.wrap ((k:Int)+1)=(k:Int)+1:=ac (by omega) (by omega)
   have e4:k * 4+4≤(bc ts).length:=by rw [jw];omega
   have e3:=kz hlt
   obtain ⟨ty,hty⟩:∃ ty,ts.getD k iy=ty:=⟨_,rfl⟩
   have hm:ty∈ts:=by rw [← hty];simp [hlt]
   rw [hty] at e3
   replace hty:=hid hty
   rcases hqk:q ty with _|_
   · have kk1:Hid (∀ {K:AV→List Blk→Prop},K (.bool false) L→ad Tryz.prog f (.agg (tyC ty)::caps) L K):=hid fun a=>hf.out ty _ hm (by rw [hqk];exact a)
     replace hqk:=hid hqk
     simp only [tyC] at kk1 e3
     refine wk ?_
     refine ak _ _ _ (by omega) (CutL (b:=by simp)) ⟨k+1,rfl,hlt,rfl,rfl,fun j hj=>?_⟩
     rcases Nat.lt_or_ge j k with h|h
     · exact hr.out j h
     · have:j=k:=by omega
       subst this;rw [hty.out];exact hqk.out
   · have kk1:Hid (∀ {K:AV→List Blk→Prop},K (.bool true) L→ad Tryz.prog f (.agg (tyC ty)::caps) L K):=hid fun a=>hf.out ty _ hm (by rw [hqk];exact a)
     replace hqk:=hid hqk
     simp only [tyC] at kk1 e3
     refine wk ?_
     exact aa (h2.out k hlt hr.out (by rw [hty.out];exact hqk.out))
 · have g1:¬ (k:Int)<(ts.length:Int):=by omega
   refine wk ?_
   refine aa (h1.out fun ty hty=>?_)
   obtain ⟨j,hj,e⟩:=List.mem_iff_getElem.1 hty
   have:=hr.out j (by omega)
   simpa [hj,e] using this
def Jx (o:Option Typ):AV:=.tup [.agg (tyC (o.getD iy)),.bool o.isSome]
theorem rn {α:Type} {q:α→Bool} {d:α}:∀ {l:List α} {k:Nat},k<l.length→(∀ j,j<k→q (l.getD j d)=false)→q (l.getD k d)=true→l.find? q=some (l.getD k d)
 | a::t,0,_,_,h=>by
   simp only [List.getD_cons_zero] at h ⊢
   rw [List.find?_cons,h]
 | a::t,k+1,hk,hp,h=>by
   have h0:=hp 0 (by omega)
   simp only [List.getD_cons_zero] at h0
   rw [List.find?_cons,h0]
   simp only [List.getD_cons_succ] at h ⊢
   exact rn (by simpa using hk) (fun j hj=>by simpa using hp (j+1) (by omega)) h
theorem Xj {ts:List Typ} {capT:Option Nat} {c2:List AV} {n2:Nat} {cap2:Option Nat} {n:List UInt8} (hl:ts.length≤1100000) (hts:∀ t∈ts,bf t.1) (hn:bf n) (h:K (Jx (fJ ts n)) L) :
   ad Tryz.prog 77 [.agg [.sl (bc ts) ts.length capT,.sl c2 n2 cap2],.str n] L K:=by
 replace h:=hid h
 refine ae wS (by simp [eU]) ?_
 simp only [eU,ar]
 refine wk ?_
 refine Xo (q:=fun t=>decide (ah t.1=ah n)) hl (fun ty K hm hk=>?_) (fun hno=>?_) (fun k hk hp hq=>?_)
 · exact V8 (hts ty hm) hn (by simp) hk
 · have e:fJ ts n=none:=List.find?_eq_none.2 fun t ht=>by simpa using hno t ht
   rw [e] at h
   simp only [Jx,Option.getD_none,Option.isSome_none,tyC] at h
   refine sk ?_
   refine wk ?_
   exact ab rfl h.out
 · have e:fJ ts n=some (ts.getD k iy):=rn (d:=iy) hk hp hq
   have e4:k * 4+4≤(bc ts).length:=by rw [jw];omega
   have e3:=kz hk
   have g1:¬ (k:Int)<0:=by omega
   have g2:(k:Int)<(ts.length:Int):=by omega
   obtain ⟨ty,hty⟩:∃ ty,ts.getD k iy=ty:=⟨_,rfl⟩
   rw [hty] at e e3
   rw [e] at h
   simp only [Jx,Option.getD_some,Option.isSome_some,tyC] at h e3
   clear hp hq hty e
   refine sk ?_
   refine wk ?_
   exact ab rfl h.out
theorem UW {ts:List Typ} {capT:Option Nat} {c2:List AV} {n2:Nat} {cap2:Option Nat} {n:List UInt8} (hl:ts.length≤1100000) (hts:∀ t∈ts,bf t.1) (hn:bf n) (h:K (Jx (fJ ts n)) L) :
   ad Tryz.prog 36 [.agg [.sl (bc ts) ts.length capT,.sl c2 n2 cap2],.str n] L K:=by
 unfold Jx at h
 refine ae J3 (by simp [mE]) ?_
 simp only [mE,ar]
 refine wk ?_
 refine Xj hl hts hn ?_
 unfold Jx
 obtain ⟨ty,hty⟩:∃ ty,(fJ ts n).getD iy=ty:=⟨_,rfl⟩
 obtain ⟨b,hb⟩:∃ b,(fJ ts n).isSome=b:=⟨_,rfl⟩
 rw [hty,hb] at h ⊢
 replace h:=hid h
 refine sk ?_
 refine wk ?_
 exact ab rfl h.out
end Go.Proofs.YtkkgmgmgcgiffaaGreatDoor.Av
