/- Joined texts of the walk, made small by a program. -/
import Derived.Test.YtolfghcbbpcciaaGreatDoorGP4
import Derived.Test.YtolfghcbbpcciaaGreatDoorRows
import Derived.KernelRfl
import Derived.Test.YtolfghcbbpcciaaGreatDoorGE3
import Derived.Test.YtolfghcbbpcciaaGreatDoorGR3
import Derived.Test.YtolfghcbbpcciaaGreatDoorGP5
set_option linter.unusedSimpArgs false
set_option linter.unusedVariables false
set_option maxRecDepth 100000
namespace Go.Proofs.YtolfghcbbpcciaaGreatDoor.Av
open Go
def GW:LSO:=[Ab 4 0]
def GV:LSO:=[Aa 6 0,Ak 7 6,Ab 8 0]
def GU:LSO:=[Aj 9 8 7]
def GT:LSO:=[Aa 10 8,Aa 5 10]
def GS:LSO:=[Aa 11 0,Aa 12 5,Ao 13 4 11 12,Ad 14 0 13,Ac 15 1 14,Al 16 37 15,Aa 17 1,Al 18 37 17,A9 19 16 18]
def GR:LSO:=[Aa 20 5,Aa 4 20]
def GP:LSO:=[Ag 21 8 1,Aa 8 21]
def GN:LSO:=[Ab 4 (-1)]
def Ga:ba:=⟨22,(.seq (.sreg GW [])
 (.seq (.seq (.sreg GV Ca)
 (.block 0 (.loop (.seq (.sreg GU [])
 (.seq (.cond (tm 9) .skip
 (.exit 0))
 (.seq (.block 1 (.seq (.sreg GT BV)
 (.seq (.sreg GS Cl)
 (.cond (tm 19) (.seq (.sreg GR BV)
 .ret)
 .skip))))
 (.sreg GP BV)))))))
 (.seq (.sreg GN [])
 .ret))),[(.tmp 4)]⟩
attribute [push_cast] GW GV GU GT GS GR GP GN
theorem Mt:bb Tryz.prog (fun _ _=>1) 19=some Ga.raw:=by kernel_rfl
def mz:LSO:=[Ai 4]
def my:LSO:=[Aa 7 0,Ak 8 7,Ab 9 0]
def mw:LSO:=[Aj 10 9 8]
def mu:LSO:=[Ao 11 2 7 9,Au 12 2 11,Br 6,An 2 6 12]
def mt:LSO:=[Ad 13 0 6,Ac 14 1 13,Al 15 37 14,Aa 16 1,Al 17 37 16,A9 18 15 17]
def mq:LSO:=[o1 19 (.bslice false 1 0 [] []),Ad 20 1 6,Ac 21 1 20,Bh 22 19 21,Aa 4 22]
def mo:LSO:=[Ag 23 9 1,Aa 9 23]
def mn:LSO:=[Ai 4]
def jB:ba:=⟨24,(.seq (.sreg mz [])
 (.seq (.seq (.sreg my [])
 (.block 0 (.loop (.seq (.sreg mw [])
 (.seq (.cond (tm 10) .skip
 (.exit 0))
 (.seq (.block 1 (.seq (.sreg mu BW)
 (.seq (.sreg mt BZ)
 (.cond (tm 18) (.seq (.sreg mq BY)
 .ret)
 .skip))))
 (.sreg mo BV)))))))
 (.seq (.sreg mn [])
 .ret))),[(.tmp 4)]⟩
attribute [push_cast] mz my mw mu mt mq mo mn
theorem Iq:bb Tryz.prog (fun _ _=>1) 21=some jB.raw:=by kernel_rfl
def wL:LSO:=[Am 4]
def wK:LSO:=[Aa 8 0,Aa 9 1,Ay 10 38 8 9,Aa 7 10,Ar 11 7,As 12 7,Aa 5 11,Aa 6 12]
def wJ:LSO:=[Aa 13 5,Aa 4 13]
def p8:ba:=⟨14,(.seq (.sreg wL [])
 (.seq (.sreg wK [false,true,false,false,false,false,false,false])
 (.seq (.sreg wJ BV)
 .ret))),[(.tmp 4)]⟩
attribute [push_cast] wL wK wJ
theorem Kb:bb Tryz.prog (fun _ _=>1) 47=some p8.raw:=by kernel_rfl
def GM:LSO:=[Ah 6]
def GK:LSO:=[Aa 9 1,Ak 10 9,Ab 11 0]
def GJ:LSO:=[Aj 12 11 10]
def GI:LSO:=[Ao 13 1 9 11,Ac 14 1 13,Aa 8 14]
def GH:LSO:=[Aa 15 0,Aa 16 8,Ay 17 47 15 16,Aa 18 2,A9 19 17 18]
def GF:LSO:=[Aw 6]
def GE:LSO:=[Ag 20 11 1,Aa 11 20]
def GD:LSO:=[Ah 6]
def F9:ba:=⟨21,(.seq (.sreg GM [])
 (.seq (.seq (.sreg GK [])
 (.block 0 (.loop (.seq (.sreg GJ [])
 (.seq (.cond (tm 12) .skip
 (.exit 0))
 (.seq (.block 1 (.seq (.sreg GI BW)
 (.seq (.sreg GH BY)
 (.cond (tm 19) (.seq (.sreg GF [])
 .ret)
 .skip))))
 (.sreg GE BV)))))))
 (.seq (.sreg GD [])
 .ret))),[(.tmp 6)]⟩
attribute [push_cast] GM GK GJ GI GH GF GE GD
theorem Mr:bb Tryz.prog (fun _ _=>1) 39=some F9.raw:=by kernel_rfl
def wV:LSO:=[Ai 6]
def wU:LSO:=[Ai 7]
def wT:LSO:=[Ah 8]
def wS:LSO:=[Aa 11 1,Ak 12 11,Ab 13 0]
def wR:LSO:=[Aj 14 13 12]
def wQ:LSO:=[Ao 15 1 11 13,Ac 16 1 15,Aa 10 16]
def wP:LSO:=[Aa 17 8,Ax 18 17,Aa 19 18,.grp none 19 true
 [Ae 20 19 0,Ae 21 19 2,BA 22 19 47 20 21,Ae 23 19 0,Ae 24 19 10,BA 25 19 47 23 24,og 26 19 true (.bin .lss (tm 22) (tm 25))]
 27 (tm 26)]
def wO:LSO:=[Aa 28 7,Aa 29 2,Bq 30 29,Bh 31 28 30,Aa 7 31]
def wN:LSO:=[Aw 8]
def wM:LSO:=[Aa 32 7,Aa 33 10,Bq 34 33,Bh 35 32 34,Aa 7 35]
def qV:LSO:=[Ag 36 13 1,Aa 13 36]
def qU:LSO:=[Aa 37 8,Ax 38 37]
def qT:LSO:=[Aa 39 7,Aa 40 2,Bq 41 40,Bh 42 39 41,Aa 7 42]
def qS:LSO:=[Aa 43 7,Aa 6 43]
def p9:ba:=⟨44,(.seq (.sreg wV [])
 (.seq (.sreg wU [])
 (.seq (.sreg wT [])
 (.seq (.seq (.sreg wS [])
 (.block 0 (.loop (.seq (.sreg wR [])
 (.seq (.cond (tm 14) .skip
 (.exit 0))
 (.seq (.block 1 (.seq (.sreg wQ BW)
 (.seq (.seq (.sreg wP BX)
 (.cond (tm 27) (.seq (.sreg wO BY)
 (.sreg wN []))
 .skip))
 (.sreg wM BY))))
 (.sreg qV BV)))))))
 (.seq (.seq (.sreg qU BV)
 (.cond (tm 38) (.sreg qT BY)
 .skip))
 (.seq (.sreg qS BV)
 .ret)))))),[(.tmp 6)]⟩
attribute [push_cast] wV wU wT wS wR wQ wP wO wN wM qV qU qT qS
theorem Kc:bb Tryz.prog (fun _ _=>1) 40=some p9.raw:=by kernel_rfl
def DQ:LSO:=[A6 3 0,Ai 6,Ab 7 0]
def DP:LSO:=[Aa 12 2,Ak 13 12,Ab 14 0]
def DO:LSO:=[Aj 15 14 13]
def DN:LSO:=[Ao 16 1 12 14,Ac 17 1 16,Aa 9 17]
def DM:LSO:=[Ad 19 1 3,Ac 20 1 19,Aa 21 9,Ay 22 38 20 21,Aa 18 22,Ar 23 18,As 24 18,Aa 10 23,Aa 11 24]
def DL:LSO:=[Aa 25 11,Ax 26 25]
def DK:LSO:=[Ai 6,Ab 7 21]
def DJ:LSO:=[Ad 27 1 3,Ac 28 1 27,Aa 29 1,Aa 30 10,AM 31 39 28 29 30]
def DI:LSO:=[Ai 6,Ab 7 20]
def DH:LSO:=[Ad 32 1 3,Ac 33 1 32,Aa 34 1,Aa 35 9,AM 36 40 33 34 35,Aa 1 36]
def wZ:LSO:=[Ag 37 14 1,Aa 14 37]
def wY:LSO:=[Ad 38 2 3,Ac 39 1 38,Aa 40 39,.grp none 40 true
 [Ae 41 40 1,Bg 42 40 41,og 43 40 true (.bin .gtr (tm 42) (iv 1))]
 44 (tm 43)]
def wX:LSO:=[Ai 6,Ab 7 19]
def wW:LSO:=[Aa 45 1,Aa 6 45,Ab 7 0]
def CK:ba:=⟨46,(.seq (.sreg DQ [])
 (.seq (.seq (.sreg DP [])
 (.block 0 (.loop (.seq (.sreg DO [])
 (.seq (.cond (tm 15) .skip
 (.exit 0))
 (.seq (.block 1 (.seq (.sreg DN BW)
 (.seq (.sreg DM Co)
 (.seq (.seq (.sreg DL BV)
 (.cond (tm 26) (.seq (.sreg DK [])
 .ret)
 .skip))
 (.seq (.seq (.sreg DJ BY)
 (.cond (tm 31) (.seq (.sreg DI [])
 .ret)
 .skip))
 (.sreg DH BZ))))))
 (.sreg wZ BV)))))))
 (.seq (.seq (.sreg wY BX)
 (.cond (tm 44) (.seq (.sreg wX [])
 .ret)
 .skip))
 (.seq (.sreg wW Ca)
 .ret)))),[(.tmp 6),(.tmp 7)]⟩
attribute [push_cast] DQ DP DO DN DM DL DK DJ DI DH wZ wY wX wW
theorem LU:bb Tryz.prog (fun _ _=>1) 20=some CK.raw:=by kernel_rfl
def D0:LSO:=[Ai 6]
def DZ:LSO:=[Ai 7]
def DY:LSO:=[Aa 11 2,Ak 12 11,Aq 13 12 0,Aa 8 13]
def DX:LSO:=[Aa 14 0,Ak 15 14,Ab 16 0]
def DW:LSO:=[Aj 17 16 15]
def DV:LSO:=[Ao 18 2 14 16,Au 19 2 18,Br 10,An 2 10 19]
def DU:LSO:=[Aa 20 8,Ax 21 20,Aa 22 21,.grp none 22 true
 [Ae 23 22 1,A5 24 22 37 23,Bi 25 22 0 10,AU 26 22 1 25,A5 27 22 37 26,BD 28 22 24 27]
 29 (tm 28)]
def DT:LSO:=[Aa 30 7,Aa 31 1,Aa 32 2,o1 33 (.build [(.str []),(.sl [] 0 (some 0))] [(0,(1,(tm 31))),(1,(1,(tm 32)))]),BR 34 33,BS 35 30 34,Aa 7 35]
def DS:LSO:=[Aw 8]
def DR:LSO:=[Aa 36 1,Al 37 37 36,Ad 38 0 10,Ac 39 1 38,Al 40 37 39,Bv 41 37 40]
def xj:LSO:=[Aa 42 7,Au 43 2 10,BR 44 43,BS 45 42 44,Aa 7 45]
def xi:LSO:=[Ag 46 16 1,Aa 16 46]
def xh:LSO:=[Aa 47 8,Ax 48 47]
def xg:LSO:=[Aa 49 7,Aa 50 1,Aa 51 2,o1 52 (.build [(.str []),(.sl [] 0 (some 0))] [(0,(1,(tm 50))),(1,(1,(tm 51)))]),BR 53 52,BS 54 49 53,Aa 7 54]
def xf:LSO:=[Aa 55 7,Aa 6 55]
def CL:ba:=⟨56,(.seq (.sreg D0 [])
 (.seq (.sreg DZ [])
 (.seq (.sreg DY BX)
 (.seq (.seq (.sreg DX [])
 (.block 0 (.loop (.seq (.sreg DW [])
 (.seq (.cond (tm 17) .skip
 (.exit 0))
 (.seq (.block 1 (.seq (.sreg DV BW)
 (.seq (.seq (.sdreg DU [.pure,.pure,.pure,.pure,(.read 0 0),.pure,(.read 0 0)] BX)
 (.cond (tm 29) (.seq (.sreg DT Cb)
 (.sreg DS []))
 .skip))
 (.seq (.sdreg DR [.pure,(.read 0 0),.pure,(.read 0 0)] BZ)
 (.cond (tm 41) (.sreg xj BY)
 .skip)))))
 (.sreg xi BV)))))))
 (.seq (.seq (.sreg xh BV)
 (.cond (tm 48) (.sreg xg Cb)
 .skip))
 (.seq (.sreg xf BV)
 .ret)))))),[(.tmp 6)]⟩
attribute [push_cast] D0 DZ DY DX DW DV DU DT DS DR xj xi xh xg xf
theorem LV:bb Tryz.prog (fun _ _=>1) 22=some CL.raw:=by kernel_rfl
variable {L:List Blk} {K:AV→List Blk→Prop}
set_option maxHeartbeats 8000000
set_option maxRecDepth 100000
theorem W7 {ts:List Typ} {cap:Option Nat} {n:List UInt8} (hl:ts.length≤1100000) (hts:∀ t∈ts,bH t.1) (hn:bH n) (h1:gU ts n=none→K (.int .i64 (-1)) L) (h2:∀ k:Nat,k<ts.length→gU ts n=some (ts.getD k Mo)→K (.int .i64 k) L) :
   ao Tryz.prog 19 [.sl (cv ts) ts.length cap,.str n] L K:=by
 replace h1:=hid h1
 replace h2:=hid h2
 refine ag Mt (by simp [Ga]) ?_
 simp only [Ga,aN]
 refine wk ?_
 refine aI (fun m T' L'=>∃ k:Nat,m=ts.length - k∧k≤ts.length∧T'=[(8,.int .i64 (k:Int)),(7,.int .i64 ts.length),(0,.sl (cv ts) ts.length cap),(1,.str n)]∧L=L' ∧
   ∀ j,j<k→¬ ak (ts.getD j Mo).1=ak n) (CutS (b:=Nat.le_refl _)) ⟨0,rfl,Nat.zero_le _,rfl,rfl,by simp⟩ ?_
 rintro _ _ L' ⟨k,rfl,hk,rfl,e,hr⟩
 subst e
 replace hr:=hid hr
 by_cases hlt:k<ts.length
 · have g1:(k:Int)<(ts.length:Int):=by omega
   have g2:IntKind.i64.wrap ((k:Int)+1)=(k:Int)+1:=ac (by omega) (by omega)
   have e4:k * 4<(cv ts).length:=by rw [KN];omega
   have e3:(cv ts).getD (k * 4) .undef=.str (ts.getD k Mo).1:=by
     have h3:=congrArg (fun l=>l[0]?) (Gs hlt)
     simp only [List.getElem?_take_of_lt (show 0<4 by omega),List.getElem?_drop,Nat.add_zero] at h3
     rw [List.getD_eq_getElem?_getD,h3];rfl
   obtain ⟨ty,hty⟩:∃ ty,ts.getD k Mo=ty:=⟨_,rfl⟩
   have hm:bH ty.1:=hts _ (by rw [← hty];simp [hlt])
   rw [hty] at e3
   replace hty:=hid hty
   by_cases hq:ak ty.1=ak n
   · have e:gU ts n=some (ts.getD k Mo):=LI (d:=Mo) hlt (fun j hj=>decide_eq_false (hr.out j hj)) (by rw [hty.out];exact decide_eq_true hq)
     have h':=hid (h2.out k hlt e)
     have kk1:=@hid _ (fun L K=>bL hm (L:=L) (K:=K))
     have kk2:=@hid _ (fun L K=>bL hn (L:=L) (K:=K))
     refine wk ?_
     exact ab h'.out
   · have kk1:=@hid _ (fun L K=>bL hm (L:=L) (K:=K))
     have kk2:=@hid _ (fun L K=>bL hn (L:=L) (K:=K))
     refine wk ?_
     refine az _ _ _ (by omega) (CutL (b:=by simp)) ⟨k+1,rfl,hlt,rfl,rfl,fun j hj=>?_⟩
     rcases Nat.lt_or_ge j k with h|h
     · exact hr.out j h
     · have:j=k:=by omega
       subst this;rw [hty.out];exact hq
 · have g1:¬ (k:Int)<(ts.length:Int):=by omega
   have h':=hid (h1.out (List.find?_eq_none.2 fun ty hty=>by
     obtain ⟨j,hj,e⟩:=List.mem_iff_getElem.1 hty
     have:=hr.out j (by omega)
     simpa [hj,e] using this))
   refine wk ?_
   exact ab h'.out
theorem vC {syn:Int} {v:List UInt8} {L:List Blk} {K:AV→List Blk→Prop} (h:K (.str (cJ syn v)) L):ao Tryz.prog 47 [.int .i64 syn,.str v] L K:=by
 unfold cJ at h
 refine ag Kb (by simp [p8]) ?_
 simp only [p8,aN]
 refine wk ?_
 refine jP ?_
 rcases hm:bX syn v with _|m
 all_goals rw [hm] at h
 · replace h:Hid (K (.str []) L):=hid h
   simp only [JO]
   refine sk ?_
   refine wk ?_
   exact ab h.out
 · replace h:Hid (K (.str m) L):=hid h
   simp only [JO]
   refine sk ?_
   refine wk ?_
   exact ab h.out
theorem Vj {syn:Int} {l:List (List UInt8)} {cap:Option Nat} {n:List UInt8} (hl:l.length≤1100000) (h:K (.bool (inM syn l n)) L) :
   ao Tryz.prog 39 [.int .i64 syn,.sl (l.map AV.str) l.length cap,.str n] L K:=by
 obtain ⟨R,hR⟩:∃ R,inM syn l n=R:=⟨_,rfl⟩
 rw [hR] at h
 replace h:=hid h
 refine ag Mr (by simp [F9]) ?_
 simp only [F9,aN]
 refine wk ?_
 refine aI (fun m T' L'=>∃ k:Nat,m=l.length - k∧k≤l.length∧Hid (inM syn (l.drop k) n=R)∧T'=[(11,.int .i64 (k:Int)),(10,.int .i64 l.length),(9,.sl (l.map AV.str) l.length cap),(0,.int .i64 syn),(2,.str n)]∧L=L') (CutS (b:=Nat.le_refl _)) ⟨0,rfl,Nat.zero_le _,hid (by simpa using hR),rfl,rfl⟩ ?_
 rintro _ _ L' ⟨k,rfl,hk,hI,rfl,e⟩
 subst e
 by_cases hlt:k<l.length
 · have g1:(k:Int)<(l.length:Int):=by omega
   have g2:IntKind.i64.wrap ((k:Int)+1)=(k:Int)+1:=ac (by omega) (by omega)
   obtain ⟨v,hv⟩:∃ v,l.getD k []=v:=⟨_,rfl⟩
   have g3:(l.map AV.str).getD k .undef=.str v:=by rw [← hv];simp [hlt]
   have hdr:l.drop k=v::l.drop (k+1):=by rw [List.drop_eq_getElem_cons hlt,← hv];simp [hlt]
   have hI2:=hI.out
   rw [hdr,inM,List.any_cons] at hI2
   clear hv hdr hI hR
   by_cases hq:cJ syn v=n
   · rw [decide_eq_true hq,Bool.true_or] at hI2
     have h':=h.out
     rw [← hI2] at h'
     replace h':=hid h'
     clear hI2
     have kk1:=@hid _ @vC
     refine wk ?_
     exact ab h'.out
   · rw [decide_eq_false hq,Bool.false_or] at hI2
     replace hI2:=hid hI2
     have kk1:=@hid _ @vC
     refine wk ?_
     exact az _ _ _ (by omega) (CutL (b:=by simp)) ⟨k+1,rfl,hlt,hI2,rfl,rfl⟩
 · have hke:k=l.length:=by omega
   subst hke
   have g1:¬ (l.length:Int)<(l.length:Int):=by omega
   have h':=h.out
   rw [← hI.out,List.drop_length] at h'
   replace h':=hid h'
   clear hI hR
   refine wk ?_
   exact ab h'.out
theorem Wa {syn:Int} {l:List (List UInt8)} {cap:Option Nat} {v:List UInt8} (hl:l.length≤1100000) (h:K (FN (d9 syn v false l)) L) :
   ao Tryz.prog 40 [.int .i64 syn,.sl (l.map AV.str) l.length cap,.str v] L K:=by
 obtain ⟨R,hR⟩:∃ R,d9 syn v false l=R:=⟨_,rfl⟩
 rw [hR] at h
 replace h:=hid h
 refine ag Kc (by simp [p9]) ?_
 simp only [p9,aN]
 refine wk ?_
 refine cM (l:=[]) (n:=0) 7 1 rfl (Nat.zero_mul 1).symm ?_
 refine aI (fun m T' L'=>∃ (k:Nat) (d:Bool) (u:List (List UInt8)) (C:List AV) (n:Nat),m=l.length - k∧k≤l.length∧n≤k+1∧(d=false→n≤k)∧Hid (C=u.map AV.str∧n=u.length)∧Hid (u++d9 syn v d (l.drop k)=R)∧T'=[(13,.int .i64 (k:Int)),(12,.int .i64 l.length),(11,.sl (l.map AV.str) l.length cap),(8,.bool d),(7,.gsl C n L.length 1),(0,.int .i64 syn),(2,.str v)]∧L'=L++[.spare n 1]) (CutS (b:=by simp)) ⟨0,false,[],[],0,rfl,Nat.zero_le _,by simp,by simp,hid ⟨rfl,rfl⟩,hid (by simpa using hR),rfl,rfl⟩ ?_
 rintro _ _ _ ⟨k,d,u,C,n,rfl,hk,hul,hul2,hC,hI,rfl,rfl⟩
 by_cases hlt:k<l.length
 · have g1:(k:Int)<(l.length:Int):=by omega
   have g2:IntKind.i64.wrap ((k:Int)+1)=(k:Int)+1:=ac (by omega) (by omega)
   obtain ⟨x,hx⟩:∃ x,l.getD k []=x:=⟨_,rfl⟩
   have g3:(l.map AV.str).getD k .undef=.str x:=by rw [← hx];simp [hlt]
   have hdr:l.drop k=x::l.drop (k+1):=by rw [List.drop_eq_getElem_cons hlt,← hx];simp [hlt]
   have hI2:=hI.out
   rw [hdr,d9] at hI2
   clear hx hdr hI hR
   have fin:∀ (y:List UInt8),(C++[.str y]=(u++[y]).map AV.str∧n+1=(u++[y]).length):=fun y=>by
     obtain ⟨rfl,rfl⟩:=hC.out
     simp
   replace fin:=hid fin
   replace hI2:=hid hI2
   cases d with
   | true =>
     have hI3:=hI2.out
     rw [if_neg (by simp)] at hI3
     simp only [List.nil_append,Bool.true_or] at hI3
     replace hI3:=hid hI3
     clear hI2
     have kk1:=@hid _ @vC
     refine wk ?_
     refine az _ _ _ (by omega) (CutL (b:=by simp)) ⟨k+1,true,u++[x],C++[.str x],n+1,rfl,hlt,by omega,by simp,hid (fin.out x),hid (by simpa using hI3.out),rfl,rfl⟩
   | false =>
     have hul3:=hul2 rfl
     repeat' first
       | refine aT ?_
       | (first|refine aG (by kernel_rfl) ?_|refine ap (by kernel_rfl) ?_|refine aq ?_|refine aZ ?_|refine aO (fun _=>?_)|refine aj ?_|refine aK ?_|refine vC ?_|refine aL (vC ⟨rfl,rfl⟩) (vC ⟨rfl,rfl⟩) ?_|refine aB (vC ⟨rfl,rfl⟩) ?_)
         refine sm ?_
       | (first|refine aC (by kernel_rfl) ?_|refine aH ?_|refine aJ ?_|refine aU (ai ?_))
         refine sl ?_
       | exact aP
       | first|apply aQ|apply aD|apply aR|apply aE|apply aS|apply aF
       | refine aw ?_
       | first|refine ar rfl ?_|refine au rfl ?_|refine af rfl ?_ ?_|refine ay rfl (fun _=>?_) (fun _=>?_)|refine ax rfl (fun _=>?_) (fun _=>?_)
       | ((first|refine ae (fun _=>?_) (fun _=>?_)|refine ah (fun _=>?_) (fun _=>?_))<;>try refine sm ?_)
       | refine And.intro trivial ?_
       | refine And.intro (by omega) ?_
       | refine aA rfl (fun _=>?_) (fun _=>?_)
       | refine And.intro ?_ ?_
     · rename_i hq
       rw [bytesLess_eq,decide_eq_true_eq] at hq
       have hI3:=hI2.out
       rw [if_pos ⟨rfl,hq⟩,decide_eq_true hq,Bool.or_true] at hI3
       refine az _ _ _ (by omega) (CutL (b:=by simp)) ⟨k+1,true,u++[v]++[x],C++[.str v]++[.str x],n+1+1,rfl,hlt,by omega,by simp,hid ?_,hid (by simpa using hI3),rfl,rfl⟩
       obtain ⟨rfl,rfl⟩:=hC.out
       simp
     · rename_i hq
       rw [bytesLess_eq,decide_eq_false_iff_not] at hq
       have hI3:=hI2.out
       rw [if_neg (fun e=>hq e.2),decide_eq_false hq] at hI3
       refine az _ _ _ (by omega) (CutL (b:=by simp)) ⟨k+1,false,u++[x],C++[.str x],n+1,rfl,hlt,by omega,by omega,hid (fin.out x),hid (by simpa using hI3),rfl,rfl⟩
 · have hke:k=l.length:=by omega
   subst hke
   have g1:¬ (l.length:Int)<(l.length:Int):=by omega
   have hI2:=hI.out
   rw [List.drop_length,d9] at hI2
   have e0:AV.frzL (R.map AV.str)=R.map AV.str:=gj R
   have hfin:∀ X:List Blk,Fin L (.sl (R.map AV.str) R.length none) (L++X) K:=fun X=>aa (by simp only [AV.refs,fM]) h.out
   replace hfin:=hid hfin
   cases d with
   | true =>
     rw [if_pos rfl,List.append_nil] at hI2
     subst hI2
     refine wk ?_
     refine aX ?_
     simp only [AV.frz]
     rw [hC.out.1,e0,hC.out.2]
     exact hfin.out _
   | false =>
     rw [if_neg (by simp)] at hI2
     subst hI2
     have hul3:=hul2 rfl
     refine wk ?_
     refine aX ?_
     simp only [AV.frz]
     rw [show C++[AV.str v]=(u++[v]).map AV.str by rw [hC.out.1];simp,e0,show n+1=(u++[v]).length by rw [hC.out.2];simp]
     exact hfin.out _
theorem Lk (syn:Int) (v:List UInt8):∀ (l:List (List UInt8)) (d:Bool),(d9 syn v d l).length≤l.length+1
 | [],d=>by rw [d9];split<;>simp
 | x::t,d=>by
   rw [d9]
   by_cases h:d=false∧cJ syn v<cJ syn x
   · rw [if_pos h,decide_eq_true h.2,Bool.or_true,pP];simp
   · have:=Lk syn v t (d || decide (cJ syn v<cJ syn x))
     rw [if_neg h];simp;omega
theorem Pw {ty:Typ} {l vs:List (List UInt8)} {cap capV:Option Nat} (hl:l.length+vs.length≤1100000) {R:List (List UInt8)×Int} (hR:cf ty.2.1 ty.2.2.1 l vs=R) (h:K (.tup [FN R.1,.int .i64 R.2]) L) :
   ao Tryz.prog 20 [.agg (tyC ty),.sl (l.map AV.str) l.length cap,.sl (vs.map AV.str) vs.length capV] L K:=by
 replace h:=hid h
 replace hR:=hid hR
 simp only [tyC]
 refine ag LU (by simp [CK]) ?_
 simp only [CK,aN]
 refine wk ?_
 refine aI (fun m T' L'=>∃ (i:Nat) (u:List (List UInt8)) (cu:Option Nat),m=vs.length - i∧i≤vs.length∧u.length≤l.length+i∧Hid (cf ty.2.1 ty.2.2.1 u (vs.drop i)=R)∧T'=[(14,.int .i64 (i:Int)),(13,.int .i64 vs.length),(12,.sl (vs.map AV.str) vs.length capV),(1,.sl (u.map AV.str) u.length cu),(3,.ptr L.length 0)]∧L'=L++[Blk.cells (tyC ty)]) (CutS (b:=by simp)) ⟨0,l,cap,rfl,Nat.zero_le _,Nat.le_refl _,hid (by simpa using hR.out),rfl,rfl⟩ ?_
 rintro _ _ _ ⟨i,u,cu,rfl,hi,hul,hI,rfl,rfl⟩
 simp only [tyC]
 by_cases hlt:i<vs.length
 · have g1:(i:Int)<(vs.length:Int):=by omega
   have g2:IntKind.i64.wrap ((i:Int)+1)=(i:Int)+1:=ac (by omega) (by omega)
   obtain ⟨v,hv⟩:∃ v,vs.getD i []=v:=⟨_,rfl⟩
   have g3:(vs.map AV.str).getD i .undef=.str v:=by rw [← hv];simp [hlt]
   have hdr:vs.drop i=v::vs.drop (i+1):=by rw [List.drop_eq_getElem_cons hlt,← hv];simp [hlt]
   have hI2:=hI.out
   rw [hdr] at hI2
   have hu1:u.length≤1100000:=by omega
   clear hv hdr hI hR
   refine wk ?_
   refine jP ?_
   rcases hn:bX ty.2.1 v with _|n
   · rw [Sa hn] at hI2
     have h':=h.out
     rw [← hI2] at h'
     replace h':=hid h'
     simp only [JO]
     clear hI2 hn
     refine sk ?_
     refine wk ?_
     exact aX (aa rfl h'.out)
   rw [R9 hn] at hI2
   simp only [JO]
   rcases hb:inM ty.2.1 u n with _|_
   rotate_left
   · rw [if_pos hb] at hI2
     have h':=h.out
     rw [← hI2] at h'
     replace h':=hid h'
     clear hI2 hn
     refine sk ?_
     have kk1:=@hid _ (fun L K=>Vj (syn:=ty.2.1) (n:=n) (cap:=cu) hu1 (L:=L) (K:=K))
     refine wk ?_
     exact aX (aa rfl h'.out)
   rw [if_neg (by rw [hb];simp)] at hI2
   obtain ⟨u',hu'⟩:∃ u',d9 ty.2.1 v false u=u':=⟨_,rfl⟩
   have hl':=Lk ty.2.1 v u false
   rw [hu'] at hI2 hl'
   replace hI2:=hid hI2
   clear hn
   refine sk ?_
   have kk1:=@hid _ (fun L K=>Vj (syn:=ty.2.1) (n:=n) (cap:=cu) hu1 (L:=L) (K:=K))
   have kk2:=@hid _ (fun L K=>Wa (syn:=ty.2.1) (v:=v) (cap:=cu) hu1 (L:=L) (K:=K))
   refine wk ?_
   exact az _ _ _ (by omega) (CutL (b:=by simp)) ⟨i+1,u',none,rfl,hlt,by omega,hI2,rfl,rfl⟩
 · have hke:i=vs.length:=by omega
   subst hke
   have g1:¬ (vs.length:Int)<(vs.length:Int):=by omega
   have hI2:=hI.out
   rw [List.drop_length,cf] at hI2
   by_cases hs:ty.2.2.1=true∧1<u.length
   · rw [if_pos hs] at hI2
     have h':=h.out
     rw [← hI2] at h'
     replace h':=hid h'
     obtain ⟨hs1,hs2⟩:=hs
     have g3:(1:Int)<(u.length:Int):=by omega
     clear hI hI2 hR hs2
     refine wk ?_
     exact aX (aa rfl h'.out)
   · rw [if_neg hs] at hI2
     have g3:(ty.2.2.1 && decide ((1:Int)<(u.length:Int)))=false:=by
       rcases hsg:ty.2.2.1 with _|_
       · rfl
       · simp only [Bool.true_and,decide_eq_false_iff_not]
         intro e
         exact hs ⟨hsg,by omega⟩
     have h':=h.out
     rw [← hI2] at h'
     replace h':=hid h'
     clear hI hI2 hR hs
     refine wk ?_
     refine aX (aa ?_ ?_)
     · simp only [AV.frz,AV.frzL,gj,AV.refs,AV.refsL,fM];rfl
     · simp only [AV.frz,AV.frzL,gj];exact h'.out
theorem IG {l:List Atr} {cap:Option Nat} {n:List UInt8} (hl:l.length≤1100000) (hz:∀ a∈l,bH a.1∧a.2.length≤1100000) (hn:bH n) (h:K (FN (bm l n)) L) :
   ao Tryz.prog 21 [.sl (be l) l.length cap,.str n] L K:=by
 obtain ⟨R,hR⟩:∃ R,bm l n=R:=⟨_,rfl⟩
 rw [hR] at h
 replace h:=hid h
 replace hR:=hid hR
 refine ag Iq (by simp [jB]) ?_
 simp only [jB,aN]
 refine wk ?_
 refine aI (fun m T' L'=>∃ (k:Nat) (X:List Blk),m=l.length - k∧k≤l.length∧Hid (bm (l.drop k) n=R)∧T'=[(9,.int .i64 (k:Int)),(8,.int .i64 l.length),(7,.sl (be l) l.length cap),(1,.str n)]∧L'=L++X) (CutS (b:=by simp)) ⟨0,[],rfl,Nat.zero_le _,hid (by simpa using hR.out),rfl,by simp⟩ ?_
 rintro _ _ _ ⟨k,X,rfl,hk,hI,rfl,rfl⟩
 by_cases hlt:k<l.length
 · have g1:(k:Int)<(l.length:Int):=by omega
   have g2:IntKind.i64.wrap ((k:Int)+1)=(k:Int)+1:=ac (by omega) (by omega)
   have e3:=kQ hlt
   have e4:k * 2+2≤(be l).length:=by rw [jL];omega
   obtain ⟨⟨nm,vs⟩,ha⟩:∃ a,l.getD k ([],[])=a:=⟨_,rfl⟩
   have hdr:l.drop k=(nm,vs)::l.drop (k+1):=by rw [List.drop_eq_getElem_cons hlt,← ha];simp [hlt]
   obtain ⟨hnm,hvs⟩:=hz (nm,vs) (by rw [← ha];simp [hlt])
   simp only at hnm hvs
   rw [ha] at e3
   simp only [atA] at e3
   have hI2:=hI.out
   rw [hdr,bm] at hI2
   simp only at hI2
   clear hI hdr ha hz hR
   by_cases hq:ak nm=ak n
   · rw [if_pos hq] at hI2
     subst hI2
     have e0:AV.frzL (vs.map AV.str)=vs.map AV.str:=gj vs
     have kk1:=@hid _ (fun L K=>bL hnm (L:=L) (K:=K))
     have kk2:=@hid _ (fun L K=>bL hn (L:=L) (K:=K))
     refine wk ?_
     refine aX ?_
     simp only [AV.frz,e0]
     exact aa (by simp only [AV.refs,fM]) h.out
   · rw [if_neg hq] at hI2
     replace hI2:=hid hI2
     have kk1:=@hid _ (fun L K=>bL hnm (L:=L) (K:=K))
     have kk2:=@hid _ (fun L K=>bL hn (L:=L) (K:=K))
     refine wk ?_
     exact az _ _ _ (by omega) (CutL (b:=by simp)) ⟨k+1,_,rfl,hlt,hI2,rfl,rfl⟩
 · have hke:k=l.length:=by omega
   subst hke
   have g1:¬ (l.length:Int)<(l.length:Int):=by omega
   have hI2:=hI.out
   rw [List.drop_length,bm] at hI2
   subst hI2
   refine wk ?_
   exact aX (aa rfl h.out)
theorem SE {l:List Atr} {cap capV:Option Nat} {n:List UInt8} {vs:List (List UInt8)} (hl:l.length≤1100000) (hz:∀ a∈l,bH a.1∧a.2.length≤1100000) (hn:bH n) (h:K (.sl (be (dN n vs vs.isEmpty l)) (dN n vs vs.isEmpty l).length none) L) :
   ao Tryz.prog 22 [.sl (be l) l.length cap,.str n,.sl (vs.map AV.str) vs.length capV] L K:=by
 obtain ⟨R,hR⟩:∃ R,dN n vs vs.isEmpty l=R:=⟨_,rfl⟩
 rw [hR] at h
 replace h:=hid h
 obtain ⟨d0,hd0⟩:∃ d,vs.isEmpty=d:=⟨_,rfl⟩
 have hd1:decide ((vs.length:Int)=0)=d0:=by rw [← hd0];cases vs<;>simp;omega
 rw [hd0] at hR
 replace hR:=hid hR
 have ev:AV.frzL (vs.map AV.str)=vs.map AV.str:=gj vs
 replace hd0:=hid hd0
 refine ag LV (by simp [CL]) ?_
 simp only [CL,aN]
 refine wk ?_
 refine cM (l:=[]) (n:=0) 7 2 rfl (Nat.zero_mul 2).symm ?_
 refine aI (fun m T' L'=>∃ (k:Nat) (d:Bool) (u:List Atr) (C:List AV) (z:Nat) (X:List Blk),m=l.length - k∧k≤l.length∧z≤k+1∧(d=false→z≤k)∧Hid (C=be u∧z=u.length)∧Hid (u++dN n vs d (l.drop k)=R)∧T'=[(16,.int .i64 (k:Int)),(15,.int .i64 l.length),(14,.sl (be l) l.length cap),(8,.bool d),(7,.gsl C z L.length 2),(1,.str n),(2,.sl (vs.map AV.str) vs.length capV)]∧L'=L++(.spare z 2::X)) (CutS (b:=by simp)) ⟨0,d0,[],[],0,[],rfl,Nat.zero_le _,by simp,by simp,hid ⟨rfl,rfl⟩,hid (by simpa using hR.out),rfl,rfl⟩ ?_
 rintro _ _ _ ⟨k,d,u,C,z,X,rfl,hk,hul,hul2,hC,hI,rfl,rfl⟩
 by_cases hlt:k<l.length
 · have g1:(k:Int)<(l.length:Int):=by omega
   have g2:IntKind.i64.wrap ((k:Int)+1)=(k:Int)+1:=ac (by omega) (by omega)
   have e3:=kQ hlt
   have e4:k * 2+2≤(be l).length:=by rw [jL];omega
   obtain ⟨⟨nm,ws⟩,ha⟩:∃ a,l.getD k ([],[])=a:=⟨_,rfl⟩
   have hdr:l.drop k=(nm,ws)::l.drop (k+1):=by rw [List.drop_eq_getElem_cons hlt,← ha];simp [hlt]
   obtain ⟨hnm,hws⟩:=hz (nm,ws) (by rw [← ha];simp [hlt])
   simp only at hnm hws
   rw [ha] at e3
   simp only [atA] at e3
   have ew:AV.frzL (ws.map AV.str)=ws.map AV.str:=gj ws
   have hI2:=hI.out
   rw [hdr,dN] at hI2
   simp only at hI2
   have fin:∀ (C':List AV) (u':List Atr) (z':Nat) (a:Atr),C'=be u'∧z'=u'.length→C'++[.str a.1,.sl (a.2.map AV.str) a.2.length none]=be (u'++[a])∧z'+1=(u'++[a]).length:=fun C' u' z' a e=>by
     obtain ⟨rfl,rfl⟩:=e
     simp [Md,be]
   replace fin:=hid fin
   replace hd1:=hid hd1
   clear hI hdr ha hz hR
   by_cases hx:ak nm<ak n
   · have hq:ak n≠ak nm:=fun e=>by rw [e] at hx;exact List.lt_irrefl _ hx
     have hb:Op.bytesLess (ak n) (ak nm)=false:=by
       rw [bytesLess_eq,decide_eq_false_iff_not]
       exact fun e=>List.lt_irrefl _ (List.lt_trans hx e)
     cases d with
     | true =>
       have hI3:=hI2
       rw [if_neg (fun e=>by cases e.1),if_pos hq] at hI3
       rw [show (true || !decide (ak nm<ak n))=true by simp [hx]] at hI3
       replace hI3:=hid hI3
       clear hI2
       have kk1:=@hid _ (fun L K=>bL hn (L:=L) (K:=K))
       have kk2:=@hid _ (fun L K=>bL hnm (L:=L) (K:=K))
       refine wk ?_
       exact az _ _ _ (by omega) (CutL (b:=by simp)) ⟨k+1,true,u++[(nm,ws)],C++[.str nm,.sl (ws.map AV.str) ws.length none],z+1,_,rfl,hlt,by omega,by simp,hid (fin.out _ _ _ (nm,ws) hC.out),hid (by simpa using hI3.out),rfl,rfl⟩
     | false =>
       have hul3:=hul2 rfl
       have hI3:=hI2
       rw [if_neg (fun e=>e.2 hx),if_pos hq] at hI3
       rw [show (false || !decide (ak nm<ak n))=false by simp [hx]] at hI3
       replace hI3:=hid hI3
       clear hI2
       have kk1:=@hid _ (fun L K=>bL hn (L:=L) (K:=K))
       have kk2:=@hid _ (fun L K=>bL hnm (L:=L) (K:=K))
       refine wk ?_
       exact az _ _ _ (by omega) (CutL (b:=by simp)) ⟨k+1,false,u++[(nm,ws)],C++[.str nm,.sl (ws.map AV.str) ws.length none],z+1,_,rfl,hlt,by omega,by simp;omega,hid (fin.out _ _ _ (nm,ws) hC.out),hid (by simpa using hI3.out),rfl,rfl⟩
   · by_cases hq:ak n=ak nm
     · have hb:Op.bytesLess (ak n) (ak nm)=false:=by
         rw [bytesLess_eq,decide_eq_false_iff_not,hq]
         exact List.lt_irrefl _
       cases d with
       | true =>
         have hI3:=hI2
         rw [if_neg (fun e=>by cases e.1),if_neg (fun e=>e hq)] at hI3
         rw [show (true || !decide (ak nm<ak n))=true by simp [hx]] at hI3
         replace hI3:=hid hI3
         clear hI2
         have kk1:=@hid _ (fun L K=>bL hn (L:=L) (K:=K))
         have kk2:=@hid _ (fun L K=>bL hnm (L:=L) (K:=K))
         refine wk ?_
         exact az _ _ _ (by omega) (CutL (b:=by simp)) ⟨k+1,true,u,C,z,_,rfl,hlt,by omega,by simp,hid hC.out,hid (by simpa using hI3.out),rfl,rfl⟩
       | false =>
         have hul3:=hul2 rfl
         have hI3:=hI2
         rw [if_pos ⟨rfl,hx⟩,if_neg (fun e=>e hq)] at hI3
         rw [show (false || !decide (ak nm<ak n))=true by simp [hx]] at hI3
         replace hI3:=hid hI3
         clear hI2
         have kk1:=@hid _ (fun L K=>bL hn (L:=L) (K:=K))
         have kk2:=@hid _ (fun L K=>bL hnm (L:=L) (K:=K))
         refine wk ?_
         exact az _ _ _ (by omega) (CutL (b:=by simp)) ⟨k+1,true,u++[(n,vs)],C++[.str n,.sl (vs.map AV.str) vs.length none],z+1,_,rfl,hlt,by omega,by simp,hid (fin.out _ _ _ (n,vs) hC.out),hid (by simpa using hI3.out),rfl,rfl⟩
     · have hb:Op.bytesLess (ak n) (ak nm)=true:=by
         rw [bytesLess_eq,decide_eq_true_eq]
         exact (List.le_iff_lt_or_eq.1 (List.not_lt.1 hx)).resolve_right hq
       cases d with
       | true =>
         have hI3:=hI2
         rw [if_neg (fun e=>by cases e.1),if_pos hq] at hI3
         rw [show (true || !decide (ak nm<ak n))=true by simp [hx]] at hI3
         replace hI3:=hid hI3
         clear hI2
         have kk1:=@hid _ (fun L K=>bL hn (L:=L) (K:=K))
         have kk2:=@hid _ (fun L K=>bL hnm (L:=L) (K:=K))
         refine wk ?_
         exact az _ _ _ (by omega) (CutL (b:=by simp)) ⟨k+1,true,u++[(nm,ws)],C++[.str nm,.sl (ws.map AV.str) ws.length none],z+1,_,rfl,hlt,by omega,by simp,hid (fin.out _ _ _ (nm,ws) hC.out),hid (by simpa using hI3.out),rfl,rfl⟩
       | false =>
         have hul3:=hul2 rfl
         have hI3:=hI2
         rw [if_pos ⟨rfl,hx⟩,if_pos hq] at hI3
         rw [show (false || !decide (ak nm<ak n))=true by simp [hx]] at hI3
         replace hI3:=hid hI3
         clear hI2
         have kk1:=@hid _ (fun L K=>bL hn (L:=L) (K:=K))
         have kk2:=@hid _ (fun L K=>bL hnm (L:=L) (K:=K))
         refine wk ?_
         exact az _ _ _ (by omega) (CutL (b:=by simp)) ⟨k+1,true,u++[(n,vs)]++[(nm,ws)],C++[.str n,.sl (vs.map AV.str) vs.length none]++[.str nm,.sl (ws.map AV.str) ws.length none],z+1+1,_,rfl,hlt,by omega,by simp,hid (fin.out _ _ _ (nm,ws) (fin.out _ _ _ (n,vs) hC.out)),hid (by simpa using hI3.out),rfl,rfl⟩
 · have hke:k=l.length:=by omega
   subst hke
   have g1:¬ (l.length:Int)<(l.length:Int):=by omega
   have hI2:=hI.out
   rw [List.drop_length,dN] at hI2
   have e0:=ee R
   have hfin:∀ X:List Blk,Fin L (.sl (be R) R.length none) (L++X) K:=fun X=>aa (by simp only [AV.refs,fq]) h.out
   replace hfin:=hid hfin
   replace hd1:=hid hd1
   clear hI hR
   cases d with
   | true =>
     rw [if_pos rfl,List.append_nil] at hI2
     subst hI2
     refine wk ?_
     refine aX ?_
     simp only [AV.frz]
     rw [hC.out.1,e0,hC.out.2]
     exact hfin.out _
   | false =>
     rw [if_neg (by simp)] at hI2
     subst hI2
     have hul3:=hul2 rfl
     refine wk ?_
     refine aX ?_
     simp only [AV.frz]
     rw [show C++[AV.str n,.sl (vs.map AV.str) vs.length none]=be (u++[(n,vs)]) by rw [hC.out.1,Md];simp [be],e0,show z+1=(u++[(n,vs)]).length by rw [hC.out.2];simp]
     exact hfin.out _
end Go.Proofs.YtolfghcbbpcciaaGreatDoor.Av
