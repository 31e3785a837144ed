/- Joined texts of the walk, made small by a program. -/
import Derived.Test.YtdhjplmjpjfjnaaGreatHP4
import Derived.Test.YtdhjplmjpjfjnaaGreatRows
import Derived.KernelRfl
import Derived.Test.YtdhjplmjpjfjnaaGreatHD1
import Derived.Test.YtdhjplmjpjfjnaaGreatHP5
set_option linter.unusedSimpArgs false
set_option linter.unusedVariables false
set_option maxRecDepth 100000
namespace Go.Proofs.YtdhjplmjpjfjnaaGreat.Av
open Go
def sZ:LSO:=[An 2]
def sY:LSO:=[Aa 6 0,Ah 7 80 6,Aa 3 7]
def sX:LSO:=[Aa 8 3,AD 9 8,AE 10 9 1,Aa 11 10,.grp none 11 true
 [Af 12 11 3,og 13 11 true (.len true (tm 12)),og 14 11 true (.bin .leq (tm 13) (iv 32))]
 15 (tm 14),Aa 4 15]
def sW:LSO:=[Ac 5 0]
def sV:LSO:=[Aa 16 5,Aa 17 3,AD 18 17,Al 19 16 18,Aa 20 19,.grp none 20 true
 [Af 21 20 4]
 22 (tm 21)]
def sU:LSO:=[Aa 25 3,Aa 26 5,Bb 27 25 26,
 o1 28 (.call 120 [(tm 27),(.av (.str [97,98,99,100,101,102,103,104,105,106,107,108,109,110,111,112,113,114,115,116,117,118,119,120,121,122]))]),Aa 29 28,.grp none 29 false
 [Ak 30 29 5,AO 31 29 30 0,Ak 32 29 31,.grp (some (29,false)) 32 true
 [Af 33 32 3,Af 34 32 5,og 35 32 true (.idxS (tm 33) (tm 34)),og 36 32 true (.call 120 [(tm 35),(.av (.str [48,49,50,51,52,53,54,55,56,57,45]))])]
 37 (tm 36)]
 38 (tm 37),Aa 4 38]
def sT:LSO:=[Aa 23 5,Ai 24 23 1,Aa 5 24]
def sS:LSO:=[Aa 39 4,Aa 2 39]
def qh:bh:=⟨40,(.seq (.sreg sZ [])
 (.seq (.sreg sY B5)
 (.seq (.sreg sX B9)
 (.seq (.seq (.sreg sW [])
 (.block 0 (.loop (.seq (.seq (.sreg sV B9)
 (.cond (tm 22) .skip
 (.exit 0)))
 (.seq (.block 1 (.sreg sU B8))
 (.sreg sT B5))))))
 (.seq (.sreg sS B4)
 .ret))))),[(.tmp 2)]⟩
attribute [push_cast] sZ sY sX sW sV sU sT sS
theorem CJ:bz Tryz.prog (fun _ _=>1) 77=some qh.raw:=by kernel_rfl
def yo:LSO:=[An 4]
def ym:LSO:=[Ac 5 0]
def yl:LSO:=[Aa 6 5,Aa 7 1,AD 8 7,Al 9 6 8]
def yj:LSO:=[Aa 12 1,Aa 13 5,Bb 14 12 13,Aa 15 0,AC 16 14 15]
def yh:LSO:=[AY 4]
def yg:LSO:=[Aa 10 5,Ai 11 10 1,Aa 5 11]
def yf:LSO:=[An 4]
def xE:bh:=⟨17,(.seq (.sreg yo [])
 (.seq (.seq (.sreg ym [])
 (.block 0 (.loop (.seq (.seq (.sreg yl B6)
 (.cond (tm 9) .skip
 (.exit 0)))
 (.seq (.block 1 (.seq (.sreg yj B7)
 (.cond (tm 16) (.seq (.sreg yh [])
 .ret)
 .skip)))
 (.sreg yg B5))))))
 (.seq (.sreg yf [])
 .ret))),[(.tmp 4)]⟩
attribute [push_cast] yo ym yl yj yh yg yf
theorem EA:bz Tryz.prog (fun _ _=>1) 120=some xE.raw:=by kernel_rfl
def wt:LSO:=[An 4]
def wq:LSO:=[Aa 7 0,Ae 8 7,Ac 9 0]
def wp:LSO:=[Al 10 9 8]
def wo:LSO:=[Aj 11 2 7 9,A1 12 2 11,AM 6,Ay 2 6 12]
def wn:LSO:=[Ad 13 0 6,Ab 14 1 13,Ah 15 80 14,Aa 16 1,Ah 17 80 16,AC 18 15 17]
def wm:LSO:=[AY 4]
def wl:LSO:=[Ai 19 9 1,Aa 9 19]
def wj:LSO:=[An 4]
def vr:bh:=⟨20,(.seq (.sreg wt [])
 (.seq (.seq (.sreg wq [])
 (.block 0 (.loop (.seq (.sreg wp [])
 (.seq (.cond (tm 10) .skip
 (.exit 0))
 (.seq (.block 1 (.seq (.sreg wo B5)
 (.seq (.sreg wn B9)
 (.cond (tm 18) (.seq (.sreg wm [])
 .ret)
 .skip))))
 (.sreg wl B4)))))))
 (.seq (.sreg wj [])
 .ret))),[(.tmp 4)]⟩
attribute [push_cast] wt wq wp wo wn wm wl wj
theorem D8:bz Tryz.prog (fun _ _=>1) 78=some vr.raw:=by kernel_rfl
def oj:LSO:=[A0 2]
def oi:LSO:=[Am 3]
def oh:LSO:=[Ac 4 0]
def oe:LSO:=[Aa 6 4,Aa 7 0,AD 8 7,Al 9 6 8]
def oc:LSO:=[Aa 12 0,Aa 13 4,Bb 14 12 13,Aa 5 14]
def n9:LSO:=[Aa 15 5,o1 16 (.bin .eql (tm 15) (.av (.int .u8 0)))]
def n8:LSO:=[Aa 17 3,o1 18 (.app 1 1 1 [(.int .u8 0)] (tm 17) (.av (.str [92,48,48]))),Aa 3 18]
def n7:LSO:=[Aa 19 5,o1 20 (.call 120 [(tm 19),(.av (.str [34,43,44,59,60,62,92]))]),Aa 21 20,.grp none 21 false
 [Ak 22 21 4,AT 23 21 22 0,Ak 24 21 23,.grp (some (21,false)) 24 true
 [Af 25 24 5,og 26 24 true (.call 120 [(tm 25),(.av (.str [32,35]))])]
 27 (tm 26)]
 28 (tm 27),Aa 29 28,.grp none 29 false
 [Ak 30 29 4,og 31 29 false (.bin .add (tm 30) (iv 1)),Ak 32 29 0,Bi 33 29 32,Bw 34 29 31 33,Ak 35 29 34,.grp (some (29,false)) 35 true
 [Af 36 35 5,Bq 37 35 36]
 38 (tm 37)]
 39 (tm 38)]
def nZ:LSO:=[Aa 40 3,o1 41 (.bslice false 1 1 [(.int .u8 0)] [(0,(1,(.av (.int .u8 92))))]),AP 42 40 41,Aa 3 42]
def nY:LSO:=[Aa 43 3,Aa 44 5,Bk 45 44,AP 46 43 45,Aa 3 46]
def mu:LSO:=[Aa 10 4,Ai 11 10 1,Aa 4 11]
def mt:LSO:=[Aa 47 3,Ba 48 47,Aa 2 48]
def jw:bh:=⟨49,(.seq (.sreg oj [])
 (.seq (.sreg oi [])
 (.seq (.seq (.sreg oh [])
 (.block 0 (.loop (.seq (.seq (.sreg oe B6)
 (.cond (tm 9) .skip
 (.exit 0)))
 (.seq (.block 1 (.seq (.sreg oc B6)
 (.seq (.seq (.sreg n9 B4)
 (.cond (tm 16) (.seq (.sreg n8 B5)
 (.exit 1))
 .skip))
 (.seq (.seq (.sreg n7 B9)
 (.cond (tm 39) (.sreg nZ B6)
 .skip))
 (.sreg nY B7)))))
 (.sreg mu B5))))))
 (.seq (.sreg mt B5)
 .ret)))),[(.tmp 2)]⟩
attribute [push_cast] oj oi oh oe oc n9 n8 n7 nZ nY mu mt
theorem xD:bz Tryz.prog (fun _ _=>1) 79=some jw.raw:=by kernel_rfl
def sR:LSO:=[A0 2]
def sQ:LSO:=[A0 3]
def sP:LSO:=[Aa 8 0,Ae 9 8,Ac 10 0]
def sO:LSO:=[Al 11 10 9]
def sN:LSO:=[Aa 12 10,Aj 13 1 8 10,Ab 14 1 13,Aa 4 12,Aa 5 14]
def sM:LSO:=[Aa 15 4,A3 16 15 0]
def sL:LSO:=[Aa 17 3,o1 18 (.bin .add (tm 17) (.av (.str [44]))),Aa 3 18]
def sK:LSO:=[Aa 19 5,Ae 20 19,Ac 21 0]
def sJ:LSO:=[Al 22 21 20]
def sI:LSO:=[Aa 23 21,Aj 24 2 19 21,A1 25 2 24,AM 7,Aa 6 23,Ay 2 7 25]
def qJ:LSO:=[Aa 26 6,A3 27 26 0]
def qI:LSO:=[Aa 28 3,o1 29 (.bin .add (tm 28) (.av (.str [43]))),Aa 3 29]
def qH:LSO:=[Aa 30 3,Ad 31 0 7,Ab 32 1 31,Bf 33 30 32,o1 34 (.bin .add (tm 33) (.av (.str [61]))),Ad 35 1 7,Ab 36 1 35,Ah 37 79 36,Bf 38 34 37,Aa 3 38]
def qG:LSO:=[Ai 39 21 1,Aa 21 39]
def qF:LSO:=[Ai 40 10 1,Aa 10 40]
def qE:LSO:=[Aa 41 3,Aa 2 41]
def qg:bh:=⟨42,(.seq (.sreg sR [])
 (.seq (.sreg sQ [])
 (.seq (.seq (.sreg sP [])
 (.block 0 (.loop (.seq (.sreg sO [])
 (.seq (.cond (tm 11) .skip
 (.exit 0))
 (.seq (.block 1 (.seq (.sreg sN BB)
 (.seq (.seq (.sreg sM B4)
 (.cond (tm 16) (.sreg sL B5)
 .skip))
 (.seq (.sreg sK [])
 (.block 2 (.loop (.seq (.sreg sJ [])
 (.seq (.cond (tm 22) .skip
 (.exit 2))
 (.seq (.block 3 (.seq (.sreg sI BB)
 (.seq (.seq (.sreg qJ B4)
 (.cond (tm 27) (.sreg qI B5)
 .skip))
 (.sdreg qH [.pure,.pure,(.read 0 0),.pure,.pure,.pure,(.read 0 0),(.read 0 0)] BD))))
 (.sreg qG B4))))))))))
 (.sreg qF B4)))))))
 (.seq (.sreg qE B4)
 .ret)))),[(.tmp 2)]⟩
attribute [push_cast] sR sQ sP sO sN sM sL sK sJ sI qJ qI qH qG qF qE
theorem CI:bz Tryz.prog (fun _ _=>1) 54=some qg.raw:=by kernel_rfl
def rp:LSO:=[A0 2,Ac 3 0]
def rn:LSO:=[Ac 4 0]
def rm:LSO:=[Aa 9 0,Ae 10 9,Ac 11 0]
def rl:LSO:=[Al 12 11 10]
def rk:LSO:=[Aa 13 11,Aj 14 1 9 11,Ab 15 1 14,Aa 5 13,Aa 6 15]
def rj:LSO:=[Aa 16 5,Au 17 16 32]
def ri:LSO:=[A0 2,Ac 3 9]
def rh:LSO:=[Aa 18 6,Ae 19 18,Au 20 19 0]
def rg:LSO:=[A0 2,Ac 3 2]
def rf:LSO:=[Aa 21 6,Ae 22 21,Ac 23 0]
def pn:LSO:=[Al 24 23 22]
def pm:LSO:=[Aa 25 23,Aj 26 2 21 23,A1 27 2 26,AM 8,Aa 7 25,Ay 2 8 27]
def pl:LSO:=[Aa 28 7,Au 29 28 8]
def pk:LSO:=[A0 2,Ac 3 9]
def pj:LSO:=[Ad 30 0 8,Ab 31 1 30,Ah 32 77 31,AJ 33 32]
def pi:LSO:=[A0 2,Ac 3 20]
def ph:LSO:=[Aa 34 6,Aa 35 7,Bz 36 34 35,Ad 37 0 8,Ab 38 1 37,Aq 39 78 36 38]
def pg:LSO:=[A0 2,Ac 3 21]
def pf:LSO:=[Aa 40 4,Ad 41 1 8,Ab 42 1 41,AD 43 42,o1 44 (.minmax false [(tm 43),(iv 5000)]),Bf 45 40 44,Aa 4 45]
def pd:LSO:=[Ai 46 23 1,Aa 23 46]
def pc:LSO:=[Ai 47 11 1,Aa 11 47]
def o9:LSO:=[Aa 48 4,A3 49 48 4096,Aa 50 49,.grp none 50 false
 [Ak 51 50 0,Bj 52 50 54 51,Bi 53 50 52,AO 54 50 53 4096]
 55 (tm 54)]
def o8:LSO:=[A0 2,Ac 3 5]
def o7:LSO:=[Aa 56 0,Ah 57 54 56,Aa 2 57,Ac 3 0]
def oA:bh:=⟨58,(.seq (.sreg rp [])
 (.seq (.sreg rn [])
 (.seq (.seq (.sreg rm [])
 (.block 0 (.loop (.seq (.sreg rl [])
 (.seq (.cond (tm 12) .skip
 (.exit 0))
 (.seq (.block 1 (.seq (.sreg rk BB)
 (.seq (.seq (.sreg rj B4)
 (.cond (tm 17) (.seq (.sreg ri [])
 .ret)
 .skip))
 (.seq (.seq (.sreg rh B5)
 (.cond (tm 20) (.seq (.sreg rg [])
 .ret)
 .skip))
 (.seq (.sreg rf [])
 (.block 2 (.loop (.seq (.sreg pn [])
 (.seq (.cond (tm 24) .skip
 (.exit 2))
 (.seq (.block 3 (.seq (.sreg pm BB)
 (.seq (.seq (.sreg pl B4)
 (.cond (tm 29) (.seq (.sreg pk [])
 .ret)
 .skip))
 (.seq (.seq (.sreg pj B6)
 (.cond (tm 33) (.seq (.sreg pi [])
 .ret)
 .skip))
 (.seq (.seq (.sdreg ph [.pure,.pure,(.read 0 0),.pure,(.read 0 0)] B9)
 (.cond (tm 39) (.seq (.sreg pg [])
 .ret)
 .skip))
 (.sreg pf B8))))))
 (.sreg pd B4)))))))))))
 (.sreg pc B4)))))))
 (.seq (.seq (.sreg o9 B6)
 (.cond (tm 55) (.seq (.sreg o8 [])
 .ret)
 .skip))
 (.seq (.sreg o7 BN)
 .ret))))),[(.tmp 2),(.tmp 3)]⟩
attribute [push_cast] rp rn rm rl rk rj ri rh rg rf pn pm pl pk pj pi ph pg pf pd pc o9 o8 o7
theorem zT:bz Tryz.prog (fun _ _=>1) 52=some oA.raw:=by kernel_rfl
def qT:LSO:=[Am 2]
def qS:LSO:=[Am 3]
def qR:LSO:=[Aa 12 0,Ae 13 12,Ac 14 0]
def qQ:LSO:=[Al 15 14 13]
def qP:LSO:=[Aj 16 1 12 14,Ab 17 1 16,Aa 5 17]
def qO:LSO:=[Am 6]
def qN:LSO:=[Aa 18 5,Ae 19 18,Ac 20 0]
def qM:LSO:=[Al 21 20 19]
def qL:LSO:=[Aj 22 2 18 20,A1 23 2 22,AM 8,Ay 2 8 23]
def qK:List (aj×Kd) :=
 [Ap 24 0 8,Ao 25 1 24 0 1,A8 26 80 25 0 1,Ap 27 1 8,Ao 28 1 27 0 1,A8 29 81 28 0 1,od 30 (.build [(.str []),(.str [])] [(0,(1,(tm 26))),(1,(1,(tm 29)))]) .pure,
 od 9 (.alloc [(.str []),(.str [])]) .eff]
def oR:List aj :=
 [⟨none,(.store 2 (tm 9) (tm 30)),none⟩]
def o6:LSO:=[Aa 31 6,Ae 32 31,Aa 10 32]
def o5:LSO:=[Aa 33 10,A3 34 33 0,Aa 35 34,.grp none 35 true
 [Af 36 35 6,Af 37 35 10,B1 38 35 37 1,AL 39 35 2 36 38,Ax 40 35 0 39,As 41 35 1 40,og 42 35 true (.bin .add (tm 41) (.av (.str [61]))),Af 43 35 6,Af 44 35 10,B1 45 35 44 1,
 AL 46 35 2 43 45,Ax 47 35 1 46,As 48 35 1 47,og 49 35 true (.call 79 [(tm 48)]),og 50 35 true (.bin .add (tm 42) (tm 49)),Ax 51 35 0 9,As 52 35 1 51,
 og 53 35 true (.bin .add (tm 52) (.av (.str [61]))),Ax 54 35 1 9,As 55 35 1 54,og 56 35 true (.call 79 [(tm 55)]),og 57 35 true (.bin .add (tm 53) (tm 56)),
 og 58 35 true (.bin .gtr (tm 50) (tm 57))]
 59 (tm 58)]
def o4:LSO:=[Aa 60 10,AX 61 60 1,Aa 10 61]
def o3:LSO:=[Am 11]
def oZ:LSO:=[Aa 62 11,Aa 63 6,Aa 64 10,Bz 65 63 64,B3 66 62 65,Aa 11 66]
def oY:LSO:=[Aa 67 11,A1 68 2 9,o1 69 (.bslice false 2 1 [(.str []),(.str [])] [(0,(2,(tm 68)))]),B3 70 67 69,Aa 11 70]
def oX:LSO:=[Aa 71 11,Aa 72 6,Aa 73 10,o1 74 (.slV 2 (tm 72) (some (tm 73)) none none),B3 75 71 74,Aa 11 75]
def oW:LSO:=[Aa 76 11,Aa 6 76]
def oV:LSO:=[Ai 77 20 1,Aa 20 77]
def oU:LSO:=[Aa 78 3,Aa 79 6,Bn 80 79,AZ 81 78 80,Aa 3 81]
def oT:LSO:=[Ai 82 14 1,Aa 14 82]
def oS:LSO:=[Aa 83 3,Aa 2 83]
def oz:bh:=⟨84,(.seq (.sreg qT [])
 (.seq (.sreg qS [])
 (.seq (.seq (.sreg qR [])
 (.block 0 (.loop (.seq (.sreg qQ [])
 (.seq (.cond (tm 15) .skip
 (.exit 0))
 (.seq (.block 1 (.seq (.sreg qP B5)
 (.seq (.sreg qO [])
 (.seq (.seq (.sreg qN [])
 (.block 2 (.loop (.seq (.sreg qM [])
 (.seq (.cond (tm 21) .skip
 (.exit 2))
 (.seq (.block 3 (.seq (.sreg qL B5)
 (.seq (.dregM qK oR BA)
 (.seq (.sreg o6 B5)
 (.seq (.block 4 (.loop (.seq (.seq (.sdreg o5 [.pure,.pure,.pure,.pure,.pure,.pure,(.read 0 0),.pure,(.read 0 0),.pure,.pure,.pure,.pure,(.read 0 0),.pure,(.read 0 0),(.read 0 0),.pure,.pure,(.read 0 0),.pure,.pure,(.read 0 0),(.read 0 0),.pure] B6)
 (.cond (tm 59) .skip
 (.exit 4)))
 (.block 5 (.sreg o4 B5)))))
 (.seq (.sreg o3 [])
 (.seq (.sreg oZ B9)
 (.seq (.sreg oY B7)
 (.seq (.sreg oX B9)
 (.sreg oW B4))))))))))
 (.sreg oV B4)))))))
 (.sreg oU B7)))))
 (.sreg oT B4)))))))
 (.seq (.sreg oS B4)
 .ret)))),[(.tmp 2)]⟩
attribute [push_cast] qT qS qR qQ qP qO qN qM qL qK oR o6 o5 o4 o3 oZ oY oX oW oV oU oT oS
theorem zS:bz Tryz.prog (fun _ _=>1) 55=some oz.raw:=by kernel_rfl
def tG:LSO:=[A0 2,Ac 3 0]
def tF:LSO:=[Aa 7 0,Ah 8 52 7,Aa 6 8,Ar 9 6,Aw 10 6,Aa 4 9,Aa 5 10]
def tE:LSO:=[Aa 11 5,A2 12 11 0]
def tD:LSO:=[Aa 13 5,A0 2,Aa 3 13]
def tC:LSO:=[Aa 14 0,Ah 15 55 14,Ah 16 54 15,Aa 2 16,Ac 3 0]
def ql:bh:=⟨17,(.seq (.sreg tG [])
 (.seq (.sreg tF B8)
 (.seq (.seq (.sreg tE B4)
 (.cond (tm 12) (.seq (.sreg tD BC)
 .ret)
 .skip))
 (.seq (.sreg tC BB)
 .ret)))),[(.tmp 2),(.tmp 3)]⟩
attribute [push_cast] tG tF tE tD tC
theorem CM:bz Tryz.prog (fun _ _=>1) 53=some ql.raw:=by kernel_rfl
variable {L:List Blk} {K:AV→List Blk→Prop}
set_option maxHeartbeats 8000000
set_option maxRecDepth 100000
theorem EO {l:List UInt8} {x:UInt8} (hn:l.length≤1100000) (h:K (.bool (l.contains x)) L) :
   ab Tryz.prog 120 [.int .u8 x.toNat,.str l] L K:=by
 replace h:=hid h
 refine aa EA (by simp [xE]) ?_
 simp only [xE,am]
 refine wk ?_
 refine ax (fun n T' L'=>∃ (i:Nat),n=l.length - i∧i≤l.length∧Hid (∀ j,j<i→l.getD j 0≠x)∧T'=[(5,.int .i64 (i:Int)),(0,.int .u8 x.toNat),(1,.str l)]∧L=L') (CutS (b:=Nat.le_refl _)) ⟨0,rfl,Nat.zero_le _,hid (by simp),rfl,rfl⟩ ?_
 rintro _ _ _ ⟨i,rfl,hi,hno,rfl,rfl⟩
 by_cases hlt:i<l.length
 · have h1:(i:Int)<(l.length:Int):=by omega
   have h2:IntKind.i64.wrap ((i:Int)+1)=(i:Int)+1:=ah (by omega) (by omega)
   obtain ⟨p,hp⟩:∃ p,l.getD i 0=p:=⟨_,rfl⟩
   by_cases hpq:p=x
   · have hc:l.contains x=true:=by
       rw [List.contains_iff_mem,← hpq,← hp,List.getD_eq_getElem?_getD,List.getElem?_eq_getElem hlt]
       exact List.getElem_mem _
     have h':=h.out
     rw [hc] at h'
     replace h':=hid h'
     clear hc
     subst hpq
     refine wk ?_
     exact ak h'.out
   · have k1:¬ (p.toNat:Int)=(x.toNat:Int):=fun e=>hpq ((fE p x).1 e)
     have hp':=hid hp
     refine wk ?_
     refine ay _ _ _ (by omega) (CutS (b:=Nat.le_refl _)) ⟨i+1,rfl,hlt,hid fun j hj=>?_,rfl,rfl⟩
     rcases Nat.lt_or_ge j i with e|e
     · exact hno.out j e
     · have:j=i:=by omega
       subst this
       rw [hp];exact hpq
 · have hke:i=l.length:=by omega
   subst hke
   have h1:¬ (l.length:Int)<(l.length:Int):=by omega
   have hc:l.contains x=false:=by
     rw [← Bool.not_eq_true,List.contains_iff_mem]
     intro hm
     obtain ⟨j,hj,e⟩:=List.mem_iff_getElem.1 hm
     exact hno.out j hj (by simp [hj,e])
   have h':=h.out
   rw [hc] at h'
   replace h':=hid h'
   clear hc
   refine wk ?_
   exact ak h'.out
abbrev jj:List UInt8:=[97,98,99,100,101,102,103,104,105,106,107,108,109,110,111,112,113,114,115,116,117,118,119,120,121,122]
abbrev Fi:List UInt8:=[48,49,50,51,52,53,54,55,56,57,45]
theorem Mf:∀ n:_root_.Fin 256,jj.contains (eo (UInt8.ofNat n.val))=jm (n.val:Int)∧(jj.contains (eo (UInt8.ofNat n.val)) || Fi.contains (eo (UInt8.ofNat n.val)))=xP (n.val:Int):=by decide +kernel
theorem FI (c:UInt8):jj.contains (eo c)=jm (c.toNat:Int)∧(jj.contains (eo c) || Fi.contains (eo c))=xP (c.toNat:Int):=by
 have:=Mf ⟨c.toNat,c.toNat_lt⟩
 simpa using this
def okC (j:Nat) (c:UInt8):Bool:=jj.contains (eo c) || (decide (0<j) && Fi.contains (eo c))
theorem J9 (s:List UInt8):iA s=true↔(1≤s.length∧s.length≤32)∧∀ j,j<s.length→okC j (s.getD j 0)=true:=by
 simp only [iA,Bool.and_eq_true,decide_eq_true_eq,List.all_eq_true]
 constructor
 · rintro ⟨⟨⟨h1,h2⟩,h3⟩,h4⟩
   refine ⟨⟨h1,h2⟩,fun j hj=>?_⟩
   obtain ⟨e1,e2⟩:=FI (s.getD j 0)
   by_cases h0:j=0
   · subst h0
     rw [okC,e1,h3];rfl
   · have hm:s.getD j 0∈s:=by simp [hj]
     have:=h4 _ hm
     rw [← e2] at this
     rw [okC,show decide (0<j)=true by simp;omega,Bool.true_and]
     exact this
 · rintro ⟨⟨h1,h2⟩,h3⟩
   refine ⟨⟨⟨h1,h2⟩,?_⟩,fun c hc=>?_⟩
   · have:=h3 0 (by omega)
     rw [okC] at this
     simp only [Nat.lt_irrefl,decide_false,Bool.false_and,Bool.or_false] at this
     rw [← (FI _).1];exact this
   · obtain ⟨j,hj,rfl⟩:=List.mem_iff_getElem.1 hc
     have:=h3 j hj
     have e:s.getD j 0=s[j]:=by simp [hj]
     rw [e,okC] at this
     rw [← (FI _).2]
     cases hl:jj.contains (eo s[j]) with
     | true=>rfl
     | false =>
       rw [hl,Bool.false_or,Bool.and_eq_true] at this
       rw [this.2];rfl
theorem Kl {s:List UInt8} (hs:(s.length:Int)≤140737488351232) (h:K (.bool (iA s)) L):ab Tryz.prog 77 [.str s] L K:=by
 replace h:=hid h
 obtain ⟨t,ht⟩:∃ t,aD s=t:=⟨_,rfl⟩
 have htl:t.length=s.length:=by rw [← ht];simp [aD]
 have hg:∀ j,j<s.length→t.getD j 0=eo (s.getD j 0):=fun j hj=>by rw [← ht];simp [aD,hj]
 replace htl:=hid htl
 replace hg:=hid hg
 have hit:=hid (J9 s)
 refine aa CJ (by simp [qh]) ?_
 simp only [qh,am]
 refine wk ?_
 refine Gn hs ?_
 rw [ht]
 refine sk ?_
 refine wk ?_
 refine ax (fun n T' L'=>∃ (i:Nat) (b:Bool),n=s.length+1 - i∧i≤s.length∧Hid (b=true↔(1≤s.length∧s.length≤32)∧∀ j,j<i→okC j (s.getD j 0)=true)∧T'=[(5,.int .i64 (i:Int)),(4,.bool b),(3,.str t)]∧L=L') (CutS (b:=Nat.le_refl _)) ⟨0,_,rfl,Nat.zero_le _,hid (by have:=htl.out;simp;omega),rfl,rfl⟩ ?_
 rintro _ _ _ ⟨i,b,rfl,hi,hb,rfl,rfl⟩
 have htl':=htl.out
 by_cases hlt:i<s.length
 · have g1:(i:Int)<(t.length:Int):=by omega
   have g2:IntKind.i64.wrap ((i:Int)+1)=(i:Int)+1:=ah (by omega) (by omega)
   have g3:=hg.out i hlt
   obtain ⟨c,hc⟩:∃ c,s.getD i 0=c:=⟨_,rfl⟩
   rw [hc] at g3
   replace hc:=hid hc
   clear htl'
   cases b with
   | false =>
     have hf:iA s=false:=by
       rw [← Bool.not_eq_true,hit.out]
       intro ⟨q1,q2⟩
       have:=hb.out.2 ⟨q1,fun j hj=>q2 j (by omega)⟩
       cases this
     have h':=h.out
     rw [hf] at h'
     replace h':=hid h'
     clear hf
     refine wk ?_
     exact ak h'.out
   | true =>
     have hnext:okC i c=true↔((1≤s.length∧s.length≤32)∧∀ j,j<i+1→okC j (s.getD j 0)=true):=by
       have hb1:=hb.out.1 rfl
       constructor
       · intro e
         refine ⟨hb1.1,fun j hj=>?_⟩
         rcases Nat.lt_or_ge j i with q|q
         · exact hb1.2 j q
         · have:j=i:=by omega
           subst this;rw [hc.out];exact e
       · rintro ⟨_,e⟩
         have:=e i (by omega)
         rwa [hc.out] at this
     replace hnext:=hid hnext
     have hok:okC i c=(jj.contains (eo c) || (decide (0<i) && Fi.contains (eo c))):=rfl
     replace hok:=hid hok
     refine wk ?_
     refine EO (by simp) ?_
     cases hl:jj.contains (eo c) with
     | true =>
       have hk:=hid (show okC i c=true by rw [hok.out,hl];rfl)
       refine sk ?_
       refine wk ?_
       exact ay _ _ _ (by omega) (CutL (b:=Nat.le_refl _)) ⟨i+1,true,rfl,hlt,hid (by rw [← hnext.out,hk.out]),rfl,rfl⟩
     | false =>
       by_cases h0:i=0
       · have hk:=hid (show okC i c=false by rw [hok.out,hl,h0];rfl)
         have k0:¬ (0:Int)<(i:Int):=by omega
         clear h0
         refine sk ?_
         refine wk ?_
         exact ay _ _ _ (by omega) (CutL (b:=Nat.le_refl _)) ⟨i+1,false,rfl,hlt,hid (by rw [← hnext.out,hk.out]),rfl,rfl⟩
       · have hk:=hid (show okC i c=Fi.contains (eo c) by rw [hok.out,hl,show decide (0<i)=true by simp;omega];simp)
         have k0:(0:Int)<(i:Int):=by omega
         clear h0
         refine sk ?_
         repeat' first
           | refine dT ?_
           | (first|refine cA (by kernel_rfl) ?_|refine bM (by kernel_rfl) ?_|refine bN ?_|refine fN ?_|refine ez (fun _=>?_)|refine bv ?_|refine cC ?_)
             refine sm ?_
           | (first|refine ct (by kernel_rfl) ?_|refine co ?_|refine cB ?_|refine eF (bu ?_))
             refine sl ?_
           | exact eA
           | first|apply eB|apply cu|apply eC|apply cv|apply eD|apply cw
           | refine bQ ?_
           | first|refine bO rfl ?_|refine bP rfl ?_|refine aX rfl ?_ ?_|refine bX rfl (fun _=>?_) (fun _=>?_)|refine bW rfl (fun _=>?_) (fun _=>?_)
           | ((first|refine aW (fun _=>?_) (fun _=>?_)|refine br (fun _=>?_) (fun _=>?_))<;>try refine sm ?_)
           | refine And.intro trivial ?_
           | refine And.intro (by omega) ?_
           | refine bR rfl (fun _=>?_) (fun _=>?_)
           | refine And.intro ?_ ?_
         refine bF (EO (by simp) ⟨rfl,rfl⟩) ?_
         simp only [Kon,push_cast,reduceIte,Nat.reduceEqDiff,Nat.reduceAdd,Nat.reduceMul,Nat.reduceSub,Nat.reduceLT,Nat.reduceLeDiff,Int.reduceLT,Int.reduceLE,Int.reduceAdd,Int.reduceSub,Int.reduceNeg,Int.reduceToNat,Int.reduceEq,reduceCtorEq, *]
         repeat' first
           | refine dT ?_
           | (first|refine cA (by kernel_rfl) ?_|refine bM (by kernel_rfl) ?_|refine bN ?_|refine fN ?_|refine ez (fun _=>?_)|refine bv ?_|refine cC ?_)
             refine sm ?_
           | (first|refine ct (by kernel_rfl) ?_|refine co ?_|refine cB ?_|refine eF (bu ?_))
             refine sl ?_
           | exact eA
           | first|apply eB|apply cu|apply eC|apply cv|apply eD|apply cw
           | refine bQ ?_
           | first|refine bO rfl ?_|refine bP rfl ?_|refine aX rfl ?_ ?_|refine bX rfl (fun _=>?_) (fun _=>?_)|refine bW rfl (fun _=>?_) (fun _=>?_)
           | ((first|refine aW (fun _=>?_) (fun _=>?_)|refine br (fun _=>?_) (fun _=>?_))<;>try refine sm ?_)
           | refine And.intro trivial ?_
           | refine And.intro (by omega) ?_
           | refine bR rfl (fun _=>?_) (fun _=>?_)
           | refine And.intro ?_ ?_
         exact ay _ _ _ (by omega) (CutL (b:=Nat.le_refl _)) ⟨i+1,Fi.contains (eo c),rfl,hlt,hid (by rw [← hnext.out,hk.out]),rfl,rfl⟩
 · have hke:i=s.length:=by omega
   subst hke
   have g1:¬ (s.length:Int)<(t.length:Int):=by omega
   have hfin:b=iA s:=by
     have e:=hb.out.trans hit.out.symm
     cases b<;>cases hs':iA s<;>simp_all
   have h':=h.out
   rw [← hfin] at h'
   replace h':=hid h'
   clear hfin
   clear htl'
   refine wk ?_
   exact ak h'.out
theorem Nr {r:List Ava} {typ:List UInt8} {cap:Option Nat} (hn:r.length≤100000) (h1:∀ a∈r,(a.1.length:Int)≤100000) (h2:(typ.length:Int)≤100000) (h:K (.bool (mC r typ)) L) :
   ab Tryz.prog 78 [Ht r cap,.str typ] L K:=by
 replace h:=hid h
 replace h1:=hid h1
 refine aa D8 (by simp [vr]) ?_
 simp only [vr,am]
 refine wk ?_
 refine ax (fun n T' L'=>∃ (k:Nat) (Z:List Blk),n=r.length - k∧k≤r.length∧Hid (mC (r.take k) typ=false)∧T'=[(9,.int .i64 (k:Int)),(8,.int .i64 r.length),(7,Ht r cap),(1,.str typ)]∧L'=L++Z) (CutS (b:=by simp)) ⟨0,[],rfl,Nat.zero_le _,hid rfl,rfl,by simp⟩ ?_
 rintro _ _ _ ⟨k,Z,rfl,hk,hf,rfl,rfl⟩
 by_cases hlt:k<r.length
 · have g1:(k:Int)<(r.length:Int):=by omega
   have g2:IntKind.i64.wrap ((k:Int)+1)=(k:Int)+1:=ah (by omega) (by omega)
   have e1:=dQ hlt
   have e2:k * 2+2≤(aL r).length:=by rw [bt];omega
   obtain ⟨⟨ty,va⟩,ha⟩:∃ a,r.getD k ([],[])=a:=⟨_,rfl⟩
   have ham:(ty,va)∈r:=by rw [← ha];simp [hlt]
   have htk:r.take (k+1)=r.take k++[(ty,va)]:=by rw [List.take_succ_eq_append_getElem hlt,← ha];simp [hlt]
   rw [ha] at e1
   simp only [lF] at e1
   have hs:mC (r.take (k+1)) typ=decide (aD ty=aD typ):=by
     have:=hf.out
     simp only [mC] at this ⊢
     rw [htk,List.any_append,this];simp
   have ha1:=h1.out _ ham
   simp only at ha1
   have hall:aD ty=aD typ→mC r typ=true:=fun e=>List.any_eq_true.2 ⟨_,ham,by simpa using e⟩
   replace hall:=hid hall
   replace hs:=hid hs
   clear ha ham htk
   by_cases hq:aD ty=aD typ
   · have h':=h.out
     rw [hall.out hq] at h'
     replace h':=hid h'
     have kk1:=@hid _ (fun L K=>lC ha1 (L:=L) (K:=K))
     have kk2:=@hid _ (fun L K=>lC h2 (L:=L) (K:=K))
     refine wk ?_
     exact ac rfl h'.out
   · have kk1:=@hid _ (fun L K=>lC ha1 (L:=L) (K:=K))
     have kk2:=@hid _ (fun L K=>lC h2 (L:=L) (K:=K))
     refine wk ?_
     exact ay _ _ _ (by omega) (CutL (b:=by simp)) ⟨k+1,_,rfl,hlt,hid (by rw [hs.out];simpa using hq),rfl,rfl⟩
 · have hke:k=r.length:=by omega
   subst hke
   have g1:¬ (r.length:Int)<(r.length:Int):=by omega
   have hn':=hf.out
   rw [List.take_length] at hn'
   have h':=h.out
   rw [hn'] at h'
   replace h':=hid h'
   clear hn'
   refine wk ?_
   exact ac rfl h'.out
theorem ii {s:List UInt8} (hs:s.length≤100000) (h:K (.str (eG s)) L):ab Tryz.prog 79 [.str s] L K:=by
 replace h:=hid h
 refine aa xD (by simp [jw]) ?_
 simp only [jw,am]
 refine wk ?_
 refine cq (l:=[]) (n:=0) 3 1 rfl (Nat.zero_mul 1).symm ?_
 refine ax (fun n T' L'=>∃ (i m:Nat) (b:List UInt8),n=s.length - i∧i≤s.length∧m≤3 * i∧Hid (m=b.length∧b++wrL s.length i (s.drop i)=eG s)∧T'=[(4,.int .i64 (i:Int)),(3,.gsl (u8s b) m L.length 1),(0,.str s)]∧L'=L++[.spare m 1]) (CutS (b:=by simp)) ⟨0,0,[],rfl,Nat.zero_le _,by omega,hid ⟨rfl,rfl⟩,rfl,rfl⟩ ?_
 rintro _ _ _ ⟨i,m,b,rfl,hi,hm,hb,rfl,rfl⟩
 by_cases hlt:i<s.length
 · have g1:(i:Int)<(s.length:Int):=by omega
   have g2:IntKind.i64.wrap ((i:Int)+1)=(i:Int)+1:=ah (by omega) (by omega)
   obtain ⟨c,hc⟩:∃ c,s.getD i 0=c:=⟨_,rfl⟩
   have hdr:=Oq hlt
   rw [hc] at hdr
   have hb2:=hb.out.2
   rw [hdr] at hb2
   simp only [wrL] at hb2
   clear hdr
   replace hb2:=hid hb2
   obtain ⟨p1,hp1⟩:∃ p,([34,43,44,59,60,62,92]:List UInt8).contains c=p:=⟨_,rfl⟩
   obtain ⟨p2,hp2⟩:∃ p,([32,35]:List UInt8).contains c=p:=⟨_,rfl⟩
   have hq1:p1=true↔c∈([34,43,44,59,60,62,92]:List UInt8):=by rw [← hp1,List.contains_iff_mem]
   have hq2:p2=true↔(c=32∨c=35):=by rw [← hp2,List.contains_iff_mem];simp
   replace hq1:=hid hq1
   replace hq2:=hid hq2
   repeat' first
     | refine dT ?_
     | (first|refine cA (by kernel_rfl) ?_|refine bM (by kernel_rfl) ?_|refine bN ?_|refine fN ?_|refine ez (fun _=>?_)|refine bv ?_|refine cC ?_|refine EO (by simp) ?_|refine eE (EO (by simp) ⟨rfl,rfl⟩) (EO (by simp) ⟨rfl,rfl⟩) ?_|refine bF (EO (by simp) ⟨rfl,rfl⟩) ?_)
       refine sm ?_
     | (first|refine ct (by kernel_rfl) ?_|refine co ?_|refine cB ?_|refine eF (bu ?_))
       refine sl ?_
     | exact eA
     | first|apply eB|apply cu|apply eC|apply cv|apply eD|apply cw
     | refine bQ ?_
     | first|refine bO rfl ?_|refine bP rfl ?_|refine aX rfl ?_ ?_|refine bX rfl (fun _=>?_) (fun _=>?_)|refine bW rfl (fun _=>?_) (fun _=>?_)
     | ((first|refine aW (fun _=>?_) (fun _=>?_)|refine br (fun _=>?_) (fun _=>?_))<;>try refine sm ?_)
     | refine And.intro trivial ?_
     | refine And.intro (by omega) ?_
     | refine bR rfl (fun _=>?_) (fun _=>?_)
     | refine And.intro ?_ ?_
   · rfl
   · omega
   · rename_i h0
     have hc0:=(fE c 0).1 h0
     rw [show u8s b++AV.frzL (u8s [92,48,48])=u8s (b++[92,48,48]) by simp [u8s,AV.frzL,AV.frz]]
     refine ay _ _ _ (by omega) (CutL (b:=by simp)) ⟨i+1,m+3,b++[92,48,48],rfl,hlt,by omega,hid ⟨by simp [hb.out.1],?_⟩,rfl,rfl⟩
     rw [← hb2.out,wrB,if_pos hc0,List.append_assoc]
   · rename_i h0 h1
     have hc0:¬ c=0:=fun e=>h0 ((fE c 0).2 e)
     have hq:(i=0∧(c=32∨c=35))∨(i+1=s.length∧c=32)∨c∈[34,43,44,59,60,62,92]:=by
       simp only [Bool.or_eq_true,Bool.and_eq_true,decide_eq_true_eq] at h1
       rcases h1 with (e|⟨e1,e2⟩)|⟨e1,e2⟩
       · exact .inr (.inr (hq1.out.1 e))
       · exact .inl ⟨by omega,hq2.out.1 e2⟩
       · exact .inr (.inl ⟨by omega,(fE c 32).1 e2⟩)
     rw [show u8s b++[AV.int IntKind.u8 92,AV.int IntKind.u8 (c.toNat:Int)]=u8s (b++[92,c]) by simp [u8s]]
     refine ay _ _ _ (by omega) (CutL (b:=by simp)) ⟨i+1,m+1+1,b++[92,c],rfl,hlt,by omega,hid ⟨by simp [hb.out.1],?_⟩,rfl,rfl⟩
     rw [← hb2.out,wrB,if_neg hc0,if_pos hq,List.append_assoc]
   · rename_i h0 h1
     have hc0:¬ c=0:=fun e=>h0 ((fE c 0).2 e)
     have hq:¬ ((i=0∧(c=32∨c=35))∨(i+1=s.length∧c=32)∨c∈[34,43,44,59,60,62,92]):=fun hq=>by
       rw [← Bool.not_eq_true] at h1
       refine h1 ?_
       simp only [Bool.or_eq_true,Bool.and_eq_true,decide_eq_true_eq]
       rcases hq with ⟨e1,e2⟩|⟨e1,e2⟩|e
       · exact .inl (.inr ⟨by omega,hq2.out.2 e2⟩)
       · exact .inr ⟨by omega,(fE c 32).2 e2⟩
       · exact .inl (.inl (hq1.out.2 e))
     rw [show u8s b++[AV.int IntKind.u8 (c.toNat:Int)]=u8s (b++[c]) by simp [u8s]]
     refine ay _ _ _ (by omega) (CutL (b:=by simp)) ⟨i+1,m+1,b++[c],rfl,hlt,by omega,hid ⟨by simp [hb.out.1],?_⟩,rfl,rfl⟩
     rw [← hb2.out,wrB,if_neg hc0,if_neg hq,List.append_assoc]
 · have hke:i=s.length:=by omega
   subst hke
   have g1:¬ (s.length:Int)<(s.length:Int):=by omega
   have e1:=mO b
   have e2:=lI b
   have e:=hb.out.2
   rw [List.drop_length,wrL,List.append_nil] at e
   have h':=h.out
   rw [← e] at h'
   replace h':=hid h'
   clear e
   refine wk ?_
   exact ac rfl h'.out
end Go.Proofs.YtdhjplmjpjfjnaaGreat.Av
