/- Joined texts of the walk, made small by a program. -/
import Derived.Test.YtdhjplmjpjfjnaaGreatHP4
import Derived.Test.YtdhjplmjpjfjnaaGreatRows
import Derived.KernelRfl
import Derived.Test.YtdhjplmjpjfjnaaGreatHO1
import Derived.Test.YtdhjplmjpjfjnaaGreatHShelfP
import Derived.Laws.RangeAny
import Derived.Laws.RangeString
import Derived.Test.YtdhjplmjpjfjnaaGreatHP5
set_option linter.unusedSimpArgs false
set_option linter.unusedVariables false
set_option maxRecDepth 100000
namespace Go.Proofs.YtdhjplmjpjfjnaaGreat.Av
open Go
def Ck:LSO:=[An 2]
def Cj:LSO:=[Aa 5 0,o1 6 (.bin .eql (tm 5) (.av (.str []))),Aa 7 6,.grp none 7 false
 [Ak 8 7 0,Bi 9 7 8,AO 10 7 9 32]
 11 (tm 10),Aa 12 11,.grp none 12 false
 [Ak 13 12 0,og 14 12 false (.idxS (tm 13) (iv 0)),og 15 12 false (.conv .i32 (tm 14)),Bj 16 12 143 15,Bp 17 12 16]
 18 (tm 17)]
def Ci:LSO:=[An 2]
def Ch:LSO:=[Aa 19 0,o1 20 (.rangeS (tm 19))]
def Cg:LSO:=[o1 21 (.nextS (tm 20)),Ar 22 21]
def Cf:LSO:=[o1 23 (.extract (tm 21) 2),Aa 4 23]
def Ce:LSO:=[Aa 24 4,Ah 25 143 24,AJ 26 25,Aa 27 26,.grp none 27 true
 [Af 28 27 4,og 29 27 true (.bin .lss (tm 28) (.av (.int .i32 48))),Af 30 27 29,.grp (some (27,true)) 30 false
 [Ak 31 30 4,og 32 30 false (.bin .gtr (tm 31) (.av (.int .i32 57)))]
 33 (tm 32)]
 34 (tm 33),Aa 35 34,.grp none 35 true
 [Af 36 35 4,og 37 35 true (.bin .neq (tm 36) (.av (.int .i32 45)))]
 38 (tm 37)]
def Cd:LSO:=[An 2]
def Cc:LSO:=[AY 2]
def zW:bh:=⟨39,(.seq (.sreg Ck [])
 (.seq (.seq (.sreg Cj B9)
 (.cond (tm 18) (.seq (.sreg Ci [])
 .ret)
 .skip))
 (.seq (.seq (.sreg Ch B4)
 (.block 0 (.loop (.seq (.sreg Cg [])
 (.seq (.cond (tm 22) .skip
 (.exit 0))
 (.block 1 (.seq (.sreg Cf B4)
 (.seq (.sreg Ce B8)
 (.cond (tm 38) (.seq (.sreg Cd [])
 .ret)
 .skip)))))))))
 (.seq (.sreg Cc [])
 .ret)))),[(.tmp 2)]⟩
attribute [push_cast] Ck Cj Ci Ch Cg Cf Ce Cd Cc
theorem FY:bz Tryz.prog (fun _ _=>1) 118=some zW.raw:=by kernel_rfl
def wL:LSO:=[An 2]
def wK:LSO:=[Aa 3 0,o1 4 (.bin .geq (tm 3) (.av (.int .i32 97))),Aa 5 4,.grp none 5 true
 [Af 6 5 0,og 7 5 true (.bin .leq (tm 6) (.av (.int .i32 122)))]
 8 (tm 7),Aa 9 8,.grp none 9 false
 [Ak 10 9 0,og 11 9 false (.bin .geq (tm 10) (.av (.int .i32 65))),Ak 12 9 11,.grp (some (9,false)) 12 true
 [Af 13 12 0,og 14 12 true (.bin .leq (tm 13) (.av (.int .i32 90)))]
 15 (tm 14)]
 16 (tm 15),Aa 2 16]
def vv:bh:=⟨17,(.seq (.sreg wL [])
 (.seq (.sreg wK B8)
 .ret)),[(.tmp 2)]⟩
attribute [push_cast] wL wK
theorem Ea:bz Tryz.prog (fun _ _=>1) 143=some vv.raw:=by kernel_rfl
def Dn:LSO:=[A4 3 1,An 4]
def Dm:LSO:=[Aa 5 0,o1 6 (.mkfn 145 [(tm 3)]),Aq 7 144 5 6,Aa 4 7]
def Eb:bh:=⟨8,(.seq (.sreg Dn [])
 (.seq (.sreg Dm B6)
 .ret)),[(.tmp 4)]⟩
attribute [push_cast] Dn Dm
theorem G4:bz Tryz.prog (fun _ _=>1) 119=some Eb.raw:=by kernel_rfl
def yA:LSO:=[A4 2 0,An 3]
def yz:LSO:=[Ad 4 0 2,Ab 5 1 4,Ah 6 113 5,Ab 7 1 1,Ah 8 113 7,AC 9 6 8,Aa 3 9]
def xF:bh:=⟨10,(.seq (.sreg yA [])
 (.seq (.sdreg yz [.pure,(.read 0 0),(.read 0 0),(.read 0 0)] B8)
 .ret)),[(.tmp 3)]⟩
attribute [push_cast] yA yz
theorem EB:bz Tryz.prog (fun _ _=>1) 145=some xF.raw:=by kernel_rfl
def u6:LSO:=[A0 2]
def u0:LSO:=[Am 3]
def uZ:LSO:=[Aa 7 0,o1 8 (.s2b (tm 7)),Ae 9 8,Ac 10 0]
def uY:LSO:=[Al 11 10 9]
def uX:LSO:=[Aa 12 10,Aj 13 1 8 10,Ab 14 1 13,Aa 4 12,Aa 5 14]
def uW:LSO:=[Aa 15 4,Au 16 15 0,Aa 17 16,.grp none 17 true
 [Af 18 17 5,Bq 19 17 18,Af 20 17 19,.grp (some (17,true)) 20 false
 [Ak 21 20 5,og 22 20 false (.bin .eql (tm 21) (.av (.int .u8 35)))]
 23 (tm 22)]
 24 (tm 23),Aa 25 24,.grp none 25 false
 [Ak 26 25 4,Ak 27 25 0,Bi 28 25 27,By 29 25 28 1,Bw 30 25 26 29,Ak 31 25 30,.grp (some (25,false)) 31 true
 [Af 32 31 5,Bq 33 31 32]
 34 (tm 33)]
 35 (tm 34),Aa 6 35]
def uV:LSO:=[Aa 37 5,o1 38 (.bin .eql (tm 37) (.av (.int .u8 0))),Aa 36 38]
def uU:LSO:=[Aa 39 3,o1 40 (.app 1 1 1 [(.int .u8 0)] (tm 39) (.av (.str [92,48,48]))),Aa 3 40]
def uT:LSO:=[Aa 42 6,Aa 43 42,.grp none 43 false
 [Ak 44 43 5,og 45 43 false (.call 141 [(.av (.str [34,43,44,59,60,62,92])),(tm 44)]),og 46 43 false (.bin .geq (tm 45) (iv 0))]
 47 (tm 46),Aa 41 47]
def uS:LSO:=[Aa 48 3,o1 49 (.bslice false 1 1 [(.int .u8 0)] [(0,(1,(.av (.int .u8 92))))]),AP 50 48 49,Aa 3 50]
def rY:LSO:=[Aa 51 3,Aa 52 5,Bk 53 52,AP 54 51 53,Aa 3 54]
def rX:LSO:=[Ai 55 10 1,Aa 10 55]
def rW:LSO:=[Aa 56 3,Ba 57 56,Aa 2 57]
def qr:bh:=⟨58,(.seq (.sreg u6 [])
 (.seq (.sreg u0 [])
 (.seq (.seq (.sreg uZ [true,true,true,false])
 (.block 0 (.loop (.seq (.sreg uY [])
 (.seq (.cond (tm 11) .skip
 (.exit 0))
 (.seq (.block 1 (.seq (.sreg uX BB)
 (.seq (.sreg uW B8)
 (.seq (.block 2 (.seq (.sreg uV B5)
 (.cond (tm 36) (.seq (.sreg uU B5)
 (.exit 1))
 (.seq (.sreg uT B6)
 (.cond (tm 41) (.sreg uS B6)
 .skip)))))
 (.sreg rY B7)))))
 (.sreg rX B4)))))))
 (.seq (.sreg rW B5)
 .ret)))),[(.tmp 2)]⟩
attribute [push_cast] u6 u0 uZ uY uX uW uV uU uT uS rY rX rW
theorem CS:bz Tryz.prog (fun _ _=>1) 115=some qr.raw:=by kernel_rfl
def yK:LSO:=[Ac 2 0]
def yJ:LSO:=[Aa 7 0,Ae 8 7,Ac 9 0]
def yI:LSO:=[Al 10 9 8]
def yH:LSO:=[Aa 11 9,Aj 12 1 7 9,Ab 13 1 12,Aa 3 11,Aa 4 13]
def yG:LSO:=[Aa 15 3,Au 16 15 32,Aa 14 16]
def yF:LSO:=[Ac 2 9]
def yE:LSO:=[Aa 18 4,Ae 19 18,Au 20 19 0,Aa 17 20]
def yD:LSO:=[Ac 2 2]
def yC:LSO:=[Aa 21 4,Ae 22 21,Ac 23 0]
def yB:LSO:=[Al 24 23 22]
def wV:LSO:=[Aa 25 23,Aj 26 2 21 23,A1 27 2 26,AM 6,Aa 5 25,Ay 2 6 27]
def wU:LSO:=[Aa 29 5,Au 30 29 8,Aa 28 30]
def wT:LSO:=[Ac 2 9]
def wS:LSO:=[Ad 32 0 6,Ab 33 1 32,Ah 34 118 33,AJ 35 34,Aa 31 35]
def wR:LSO:=[Ac 2 20]
def wQ:LSO:=[Aa 37 4,Aa 38 5,Bz 39 37 38,Ad 40 0 6,Ab 41 1 40,Aq 42 119 39 41,Aa 36 42]
def wP:LSO:=[Ac 2 21]
def wO:LSO:=[Ai 43 23 1,Aa 23 43]
def wN:LSO:=[Ai 44 9 1,Aa 9 44]
def wM:LSO:=[Ac 2 0]
def xG:bh:=⟨45,(.seq (.sreg yK [])
 (.seq (.seq (.sreg yJ [])
 (.block 0 (.loop (.seq (.sreg yI [])
 (.seq (.cond (tm 10) .skip
 (.exit 0))
 (.seq (.block 1 (.seq (.sreg yH BB)
 (.seq (.block 2 (.seq (.sreg yG B5)
 (.cond (tm 14) (.seq (.sreg yF [])
 .ret)
 (.seq (.sreg yE B6)
 (.cond (tm 17) (.seq (.sreg yD [])
 .ret)
 .skip)))))
 (.seq (.sreg yC [])
 (.block 3 (.loop (.seq (.sreg yB [])
 (.seq (.cond (tm 24) .skip
 (.exit 3))
 (.seq (.block 4 (.seq (.sreg wV BB)
 (.block 5 (.seq (.sreg wU B5)
 (.cond (tm 28) (.seq (.sreg wT [])
 .ret)
 (.seq (.sreg wS B7)
 (.cond (tm 31) (.seq (.sreg wR [])
 .ret)
 (.seq (.sdreg wQ [.pure,.pure,(.read 0 0),.pure,(.read 0 0)] B8)
 (.cond (tm 36) (.seq (.sreg wP [])
 .ret)
 .skip)))))))))
 (.sreg wO B4))))))))))
 (.sreg wN B4)))))))
 (.seq (.sreg wM [])
 .ret))),[(.tmp 2)]⟩
attribute [push_cast] yK yJ yI yH yG yF yE yD yC yB wV wU wT wS wR wQ wP wO wN wM
theorem EC:bz Tryz.prog (fun _ _=>1) 76=some xG.raw:=by kernel_rfl
def y8:LSO:=[A0 2,Ac 3 0]
def yZ:LSO:=[Aa 11 0,Ah 12 76 11,Aa 4 12]
def yY:LSO:=[Aa 13 4,A2 14 13 0]
def yX:LSO:=[Aa 15 4,A0 2,Aa 3 15]
def yW:LSO:=[Ac 5 0]
def yV:LSO:=[Aa 16 0,Ae 17 16,Ac 18 0]
def yU:LSO:=[Al 19 18 17]
def yT:LSO:=[Aj 20 1 16 18,Ab 21 1 20,Aa 7 21]
def yS:LSO:=[Aa 22 7,Ae 23 22,Ac 24 0]
def yR:LSO:=[Al 25 24 23]
def xa:LSO:=[Aj 26 2 22 24,A1 27 2 26,AM 9,Ay 2 9 27]
def w9:LSO:=[Ad 28 1 9,Ab 29 1 28,AD 30 29,A3 31 30 4096]
def w8:LSO:=[A0 2,Ac 3 5]
def w7:LSO:=[Aa 32 5,Ai 33 32 1,Aa 5 33]
def w6:LSO:=[Ai 34 24 1,Aa 24 34]
def w5:LSO:=[Ai 35 18 1,Aa 18 35]
def wZ:LSO:=[Aa 36 0,o1 37 (.call 73 [(tm 36),(.av (.bool false))]),Aa 10 37]
def wY:LSO:=[Aa 38 10,AD 39 38,A3 40 39 4096]
def wX:LSO:=[A0 2,Ac 3 5]
def wW:LSO:=[Aa 41 10,Aa 2 41,Ac 3 0]
def xH:bh:=⟨42,(.seq (.sreg y8 [])
 (.seq (.seq (.sreg yZ B5)
 (.seq (.sreg yY B4)
 (.cond (tm 14) (.seq (.sreg yX BC)
 .ret)
 .skip)))
 (.seq (.sreg yW [])
 (.seq (.seq (.sreg yV [])
 (.block 0 (.loop (.seq (.sreg yU [])
 (.seq (.cond (tm 19) .skip
 (.exit 0))
 (.seq (.block 1 (.seq (.sreg yT B5)
 (.seq (.sreg yS [])
 (.block 2 (.loop (.seq (.sreg yR [])
 (.seq (.cond (tm 25) .skip
 (.exit 2))
 (.seq (.block 3 (.seq (.sreg xa B5)
 (.seq (.seq (.sreg w9 B6)
 (.cond (tm 31) (.seq (.sreg w8 [])
 .ret)
 .skip))
 (.sreg w7 B5))))
 (.sreg w6 B4)))))))))
 (.sreg w5 B4)))))))
 (.seq (.sreg wZ B5)
 (.seq (.seq (.sreg wY B5)
 (.cond (tm 40) (.seq (.sreg wX [])
 .ret)
 .skip))
 (.seq (.sreg wW BC)
 .ret))))))),[(.tmp 2),(.tmp 3)]⟩
attribute [push_cast] y8 yZ yY yX yW yV yU yT yS yR xa w9 w8 w7 w6 w5 wZ wY wX wW
theorem ED:bz Tryz.prog (fun _ _=>1) 50=some xH.raw:=by kernel_rfl
def Cq:LSO:=[A0 2,Ac 3 0]
def Cp:LSO:=[Aa 7 0,Ah 8 50 7,Aa 6 8,Ar 9 6,Aw 10 6,Aa 4 9,Aa 5 10]
def Co:LSO:=[Aa 11 5,A2 12 11 0]
def Cm:LSO:=[Aa 13 5,A0 2,Aa 3 13]
def Cl:LSO:=[Aa 14 0,o1 15 (.call 73 [(tm 14),(.av (.bool true))]),Aa 2 15,Ac 3 0]
def zX:bh:=⟨16,(.seq (.sreg Cq [])
 (.seq (.seq (.sreg Cp B8)
 (.seq (.sreg Co B4)
 (.cond (tm 12) (.seq (.sreg Cm BC)
 .ret)
 .skip)))
 (.seq (.sreg Cl BN)
 .ret))),[(.tmp 2),(.tmp 3)]⟩
attribute [push_cast] Cq Cp Co Cm Cl
theorem FZ:bz Tryz.prog (fun _ _=>1) 46=some zX.raw:=by kernel_rfl
def cj:LSO:=[An 4]
def ch:LSO:=[Aa 5 0,Aa 6 1,Aq 7 168 5 6,AE 8 7 0,Aa 4 8]
def bC:bh:=⟨9,(.seq (.sreg cj [])
 (.seq (.sreg ch B7)
 .ret)),[(.tmp 4)]⟩
attribute [push_cast] cj ch
theorem eV:bz Tryz.prog (fun _ _=>1) 144=some bC.raw:=by kernel_rfl
def cN:LSO:=[Ac 4 0]
def cM:LSO:=[Aa 6 0,Ae 7 6,Ac 8 0]
def cL:LSO:=[Al 9 8 7]
def cK:LSO:=[Aa 10 8,Aa 5 10]
def cJ:LSO:=[Aa 11 1,Aa 12 0,Aa 13 5,Aj 14 2 12 13,A1 15 2 14,o1 16 (.callv (tm 11) [(tm 15)])]
def cI:LSO:=[Aa 17 5,Aa 4 17]
def cH:LSO:=[Ai 18 8 1,Aa 8 18]
def cG:LSO:=[Ac 4 (-1)]
def bJ:bh:=⟨19,(.seq (.sreg cN [])
 (.seq (.seq (.sreg cM BC)
 (.block 0 (.loop (.seq (.sreg cL [])
 (.seq (.cond (tm 9) .skip
 (.exit 0))
 (.seq (.block 1 (.seq (.sreg cK B4)
 (.seq (.sreg cJ B9)
 (.cond (tm 16) (.seq (.sreg cI B4)
 .ret)
 .skip))))
 (.sreg cH B4)))))))
 (.seq (.sreg cG [])
 .ret))),[(.tmp 4)]⟩
attribute [push_cast] cN cM cL cK cJ cI cH cG
theorem fh:bz Tryz.prog (fun _ _=>1) 168=some bJ.raw:=by kernel_rfl
variable {L:List Blk} {K:AV→List Blk→Prop}
set_option maxHeartbeats 8000000
set_option maxRecDepth 100000
theorem Hk {n:Int} (h0 : -2147483648≤n) (h1:n<2147483648):IntKind.i32.wrap n=n:=by
 simp only [IntKind.wrap,IntKind.bits,IntKind.signed]
 simp
 omega
theorem H4 {s:List UInt8} {p:Nat} (h:p<s.length) (ha:(s.getD p 0).toNat<128):DW s p=((s.getD p 0).toNat,1):=by
 have e:s.getD p 0=s[p]:=by simp [h]
 rw [e] at ha ⊢
 exact decode_ascii ⟨⟨s⟩⟩ p h ha
theorem JF {s:List UInt8} {p:Nat} (h:p<s.length) (ha:128≤(s.getD p 0).toNat):128≤(DW s p).1:=by
 have e:s.getD p 0=s[p]:=by simp [h]
 rw [e] at ha
 exact (decode_high ⟨⟨s⟩⟩ p h ha).1
def jm (x:Int):Bool:=(decide (97≤x) && decide (x≤122)) || (decide (65≤x) && decide (x≤90))
theorem jk {x:Int} {L:List Blk} {K:AV→List Blk→Prop} (h:K (.bool (jm x)) L):ab Tryz.prog 143 [.int .i32 x] L K:=by
 refine aa Ea (by simp [vv]) ?_
 simp only [vv,am]
 refine wk ?_
 all_goals (first|refine ac rfl (Kto h ?_)|refine ak (Kto h ?_)|refine ac (by simp only [AV.refs,AV.refsL, *];rfl) (Kto h ?_)|refine cz (ac rfl (Kto h ?_))|(trace_state;fail))
 all_goals (first|(simp [jm, *];done)|(simp [jm, *];omega)|(simp [jm, *];intros;omega)|(simp_all [Hid,jm];done)|(simp_all [Hid,jm];omega))
def xP (x:Int):Bool:=jm x || (decide (48≤x) && decide (x≤57)) || decide (x=45)
def iA (s:List UInt8):Bool:=decide (1≤s.length) && decide (s.length≤32) && jm ((s.getD 0 0).toNat:Int) && s.all fun c=>xP (c.toNat:Int)
theorem EK {x:Int} (h:128≤x):xP x=false:=by
 simp only [xP,jm,Bool.or_eq_false_iff,Bool.and_eq_false_iff,decide_eq_false_iff_not]
 omega
theorem Nn {s:List UInt8} (h:K (.bool (iA s)) L):ab Tryz.prog 118 [.str s] L K:=by
 have no:iA s=false→K (.bool false) L:=fun e=>by rw [← e];exact h
 replace no:=hid no
 replace h:=hid h
 refine aa FY (by simp [zW]) ?_
 simp only [zW,am]
 by_cases h0:s=[]
 · subst h0
   refine wk ?_
   exact ak (no.out rfl)
 have hlen:0<s.length:=List.length_pos_iff.2 h0
 by_cases h1:(32:Int)<(s.length:Int)
 · refine wk ?_
   exact ak (no.out (by simp [iA];omega))
 obtain ⟨c0,hc0⟩:∃ c,s.getD 0 0=c:=⟨_,rfl⟩
 have hr:=c0.toNat_lt
 have w0:IntKind.i32.wrap (c0.toNat:Int)=(c0.toNat:Int):=Hk (by omega) (by omega)
 cases hl0:jm (c0.toNat:Int) with
 | false =>
   have kk1:=@hid _ @jk
   refine wk ?_
   refine ak (no.out ?_)
   simp only [iA,hc0,hl0,Bool.and_false,Bool.false_and]
 | true =>
   have kk1:=@hid _ @jk
   refine wk ?_
   refine ax (fun n T' L'=>∃ p,n=s.length - p∧p≤s.length∧Hid (∀ c∈s.take p,xP (c.toNat:Int)=true)∧T'=[(20,.ptr L.length 0)]∧L'=L++[.siter s p]) (CutS (b:=by simp)) ⟨0,rfl,Nat.zero_le _,hid (by simp),rfl,rfl⟩ ?_
   rintro _ _ _ ⟨p,rfl,hp,hall,rfl,rfl⟩
   by_cases hlt:p<s.length
   · obtain ⟨c,hc⟩:∃ c,s.getD p 0=c:=⟨_,rfl⟩
     have hmem:c∈s:=by rw [← hc];simp [hlt]
     have htk:s.take (p+1)=s.take p++[c]:=by rw [List.take_succ_eq_append_getElem hlt,← hc];simp [hlt]
     replace htk:=hid htk
     have bad:xP (c.toNat:Int)=false→K (.bool false) L:=fun e=>no.out (by
       have:(s.all fun c=>xP (c.toNat:Int))=false:=List.all_eq_false.2 ⟨c,hmem,by rw [e];simp⟩
       simp only [iA,this,Bool.and_false])
     replace bad:=hid bad
     by_cases ha:c.toNat<128
     · have hd:=H4 hlt (by rw [hc];exact ha)
       rw [hc] at hd
       obtain ⟨x,hx⟩:∃ x:Nat,c.toNat=x:=⟨_,rfl⟩
       rw [hx] at hd bad
       have hx':=hid hx
       clear hx hc hmem ha hr w0
       cases hxl:jm (x:Int) with
       | true =>
         have kk1:=@hid _ @jk
         refine wk ?_
         refine ay _ _ _ (by omega) (CutS (b:=by simp)) ⟨p+1,rfl,hlt,hid fun d hd'=>?_,rfl,rfl⟩
         rw [htk.out] at hd'
         rcases List.mem_append.1 hd' with h|h
         · exact hall.out d h
         · rw [List.mem_singleton.1 h,hx'.out,xP,hxl];rfl
       | false =>
         repeat' first
           | refine dT ?_
           | (first|refine cA (by kernel_rfl) ?_|refine bM (by kernel_rfl) ?_|refine bN ?_|refine fN ?_|refine ez (fun _=>?_)|refine bv ?_|refine cC ?_|refine jk ?_|refine eE (jk ⟨rfl,rfl⟩) (jk ⟨rfl,rfl⟩) ?_|refine bF (jk ⟨rfl,rfl⟩) ?_)
             refine sm ?_
           | (first|refine ct (by kernel_rfl) ?_|refine co ?_|refine cB ?_|refine eF (bu ?_))
             refine sl ?_
           | exact eA
           | first|apply eB|apply cu|apply eC|apply cv|apply eD|apply cw
           | refine bQ ?_
           | first|refine bO rfl ?_|refine bP rfl ?_|refine aX rfl ?_ ?_|refine bX rfl (fun _=>?_) (fun _=>?_)|refine bW rfl (fun _=>?_) (fun _=>?_)
           | ((first|refine aW (fun _=>?_) (fun _=>?_)|refine br (fun _=>?_) (fun _=>?_))<;>try refine sm ?_)
           | refine And.intro trivial ?_
           | refine And.intro (by omega) ?_
           | refine bR rfl (fun _=>?_) (fun _=>?_)
           | refine And.intro ?_ ?_
         · rename_i hb
           refine ac rfl (bad.out ?_)
           simp only [xP,hxl,Bool.false_or,Bool.or_eq_false_iff,Bool.and_eq_false_iff,decide_eq_false_iff_not]
           omega
         · rename_i hb
           refine ay _ _ _ (by omega) (CutS (b:=by simp)) ⟨p+1,rfl,hlt,hid fun d hd'=>?_,rfl,rfl⟩
           rw [htk.out] at hd'
           rcases List.mem_append.1 hd' with h|h
           · exact hall.out d h
           · rw [List.mem_singleton.1 h,hx'.out]
             simp only [xP,hxl,Bool.false_or,Bool.or_eq_true,Bool.and_eq_true,decide_eq_true_eq]
             omega
     · have hh:=JF hlt (by rw [hc];omega)
       obtain ⟨⟨x,wd⟩,hd⟩:∃ q,DW s p=q:=⟨_,rfl⟩
       rw [hd] at hh
       simp only at hh
       have bad':=hid (bad.out (EK (show (128:Int)≤(c.toNat:Int) by omega)))
       have hxl:jm (x:Int)=false:=by
         have:=EK (show (128:Int)≤(x:Int) by omega)
         simp only [xP,Bool.or_eq_false_iff] at this
         exact this.1.1
       have f1:¬ (x:Int)<48:=by omega
       have f2:(57:Int)<(x:Int):=by omega
       have f3:¬ (x:Int)=45:=by omega
       clear hc hmem hr w0
       have kk1:=@hid _ @jk
       refine wk ?_
       exact ac rfl bad'.out
   · have hke:p=s.length:=by omega
     subst hke
     have h':=h.out
     have e:iA s=true:=by
       have e1:(s.all fun c=>xP (c.toNat:Int))=true:=List.all_eq_true.2 fun c hcm=>hall.out c (by rw [List.take_length];exact hcm)
       simp only [iA,e1,hc0,hl0,Bool.and_true]
       simp;omega
     rw [e] at h'
     replace h':=hid h'
     clear e
     refine wk ?_
     exact ac rfl h'.out
abbrev Ava:=List UInt8×List UInt8
def lF (a:Ava):List AV:=[.str a.1,.str a.2]
def aL (r:List Ava):List AV:=r.flatMap lF
abbrev Ht (r:List Ava) (cap:Option Nat):AV:=.sl (aL r) r.length cap
def mC (r:List Ava) (typ:List UInt8):Bool:=r.any fun a=>decide (aD a.1=aD typ)
theorem NH {a:Ava} {typ:List UInt8} {ip:Nat} (h1:(a.1.length:Int)≤100000) (h2:(typ.length:Int)≤100000) (hL:L[ip]?=some (.cells [.str typ])) (h:K (.bool (decide (aD a.1=aD typ))) L) :
   ab Tryz.prog 145 [.agg (lF a),.ptr ip 0] L K:=by
 obtain ⟨t,v⟩:=a
 replace h:=hid h
 have hip:ip<L.length:=(List.getElem?_eq_some_iff.1 hL).1
 have g1:(L++[Blk.cells [.str t,.str v]])[ip]?=some (.cells [.str typ]):=by rw [List.getElem?_append_left hip];exact hL
 simp only [lF]
 refine aa EB (by simp [xF]) ?_
 simp only [xF,am]
 have kk1:=@hid _ (fun L K=>vi h1 (L:=L) (K:=K))
 have kk2:=@hid _ (fun L K=>vi h2 (L:=L) (K:=K))
 refine wk ?_
 exact ac rfl h.out
theorem bt (r:List Ava):(aL r).length=r.length * 2:=by
 induction r with
 | nil=>rfl
 | cons a r ih=>simp only [aL,List.flatMap_cons,List.length_append,lF,List.length_cons,List.length_nil] at ih ⊢;omega
theorem dQ:∀ {r:List Ava} {k:Nat},k<r.length→((aL r).drop (k * 2)).take 2=lF (r.getD k ([],[]))
 | a::r,0,_=>rfl
 | a::r,k+1,h=>by
   have ih:=@dQ r k (by simpa using h)
   rw [show (k+1) * 2=k * 2+1+1 by omega]
   simpa [aL,lF] using ih
theorem KN {r:List Ava} {typ:List UInt8} {cap:Option Nat} {ip:Nat} (hn:r.length≤100000) (h1:∀ a∈r,(a.1.length:Int)≤100000) (h2:(typ.length:Int)≤100000) (hL:L[ip]?=some (.cells [.str typ]))
   (hno:mC r typ=false→K (.int .i64 (-1)) L) (hyes:∀ k:Nat,mC r typ=true→K (.int .i64 k) L):ab Tryz.prog 168 [Ht r cap,.func 145 [.ptr ip 0]] L K:=by
 replace hno:=hid hno
 replace hyes:=hid hyes
 replace h1:=hid h1
 refine aa fh (by simp [bJ]) ?_
 simp only [bJ,am]
 refine wk ?_
 refine ax (fun n T' L'=>∃ (k:Nat),n=r.length - k∧k≤r.length∧Hid (mC (r.take k) typ=false)∧T'=[(8,.int .i64 (k:Int)),(7,.int .i64 r.length),(0,Ht r cap),(1,.func 145 [.ptr ip 0])]∧L=L') (CutS (b:=Nat.le_refl _)) ⟨0,rfl,Nat.zero_le _,hid rfl,rfl,rfl⟩ ?_
 rintro _ _ _ ⟨k,rfl,hk,hf,rfl,rfl⟩
 by_cases hlt:k<r.length
 · have g1:(k:Int)<(r.length:Int):=by omega
   have g2:IntKind.i64.wrap ((k:Int)+1)=(k:Int)+1:=ah (by omega) (by omega)
   have e1:=dQ hlt
   have e2:k * 2+2≤(aL r).length:=by rw [bt];omega
   obtain ⟨a,ha⟩:∃ a,r.getD k ([],[])=a:=⟨_,rfl⟩
   have ham:a∈r:=by rw [← ha];simp [hlt]
   have htk:r.take (k+1)=r.take k++[a]:=by rw [List.take_succ_eq_append_getElem hlt,← ha];simp [hlt]
   rw [ha] at e1
   have hs:mC (r.take (k+1)) typ=decide (aD a.1=aD typ):=by
     have:=hf.out
     simp only [mC] at this ⊢
     rw [htk,List.any_append,this];simp
   have hall:decide (aD a.1=aD typ)=true→mC r typ=true:=fun e=>List.any_eq_true.2 ⟨a,ham,e⟩
   replace hall:=hid hall
   replace hs:=hid hs
   replace htk:=hid htk
   have ha1:=hid (h1.out a ham)
   clear ha ham
   refine wk ?_
   refine NH ha1.out h2 hL ?_
   refine sk ?_
   cases hd:decide (aD a.1=aD typ) with
   | true =>
     have hy:=hid (hyes.out k (hall.out hd))
     replace hd:=hid hd
     refine wk ?_
     exact ak hy.out
   | false =>
     replace hd:=hid hd
     refine wk ?_
     exact ay _ _ _ (by omega) (CutS (b:=Nat.le_refl _)) ⟨k+1,rfl,hlt,hid (by rw [hs.out,hd.out]),rfl,rfl⟩
 · have hke:k=r.length:=by omega
   subst hke
   have g1:¬ (r.length:Int)<(r.length:Int):=by omega
   have hn':=hf.out
   rw [List.take_length] at hn'
   have hy:=hid (hno.out hn')
   clear hn'
   refine wk ?_
   exact ak hy.out
theorem G3 {r:List Ava} {typ:List UInt8} {cap:Option Nat} {ip:Nat} (hn:r.length≤100000) (h1:∀ a∈r,(a.1.length:Int)≤100000) (h2:(typ.length:Int)≤100000) (hL:L[ip]?=some (.cells [.str typ])) (h:K (.bool (mC r typ)) L) :
   ab Tryz.prog 144 [Ht r cap,.func 145 [.ptr ip 0]] L K:=by
 replace h:=hid h
 refine aa eV (by simp [bC]) ?_
 simp only [bC,am]
 refine wk ?_
 refine KN hn h1 h2 hL (fun e=>?_) (fun k e=>?_)
 · have h':=h.out
   rw [e] at h'
   replace h':=hid h'
   refine sk ?_
   refine wk ?_
   exact ak h'.out
 · have h':=h.out
   rw [e] at h'
   replace h':=hid h'
   have g:(0:Int)≤(k:Int):=by omega
   refine sk ?_
   refine wk ?_
   exact ak h'.out
theorem Ol {r:List Ava} {typ:List UInt8} {cap:Option Nat} (hn:r.length≤100000) (h1:∀ a∈r,(a.1.length:Int)≤100000) (h2:(typ.length:Int)≤100000) (h:K (.bool (mC r typ)) L) :
   ab Tryz.prog 119 [Ht r cap,.str typ] L K:=by
 replace h:=hid h
 refine aa G4 (by simp [Eb]) ?_
 simp only [Eb,am]
 refine wk ?_
 refine G3 hn h1 h2 (by simp) ?_
 refine sk ?_
 refine wk ?_
 exact ac rfl h.out
theorem zj {a:List UInt8} {c:UInt8} (h:K (.int .i64 (Lib.indexByte a c)) L):ab Tryz.prog 141 [.str a,.int .u8 c.toNat] L K :=
 mM Tryz.func141 rfl (by kernel_rfl) (fun w0 S0 E w vs hR hv=>by
   simp only [VRL,VR] at hv
   obtain ⟨_,_,rfl,rfl,_,_,rfl,rfl,rfl⟩:=hv
   exact (Tryz.strings_IndexByte ⟨⟨a⟩⟩ c.toNat w).mono fun e w' ⟨he,hw⟩=>⟨_,he,by simp [VR],by subst hw;exact EG.refl _⟩) h
theorem Fc (a:List UInt8) (c:UInt8):(0≤Lib.indexByte a c)↔c∈a:=by
 induction a with
 | nil=>simp [Lib.indexByte]
 | cons b l ih =>
   have hge:=Lib.indexByte_ge l c
   unfold Lib.indexByte
   by_cases hb:b=c
   · simp [hb]
   · have e1:(b == c)=false:=by simpa using hb
     rw [e1]
     simp only [Bool.false_eq_true,if_false]
     have e2:c∈b::l↔c∈l:=by simp [Ne.symm hb]
     rw [e2,← ih]
     split
     · rename_i h;simp at h;omega
     · rename_i h;simp at h;omega
theorem fE (c d:UInt8):(c.toNat:Int)=(d.toNat:Int)↔c=d:=by
 constructor
 · intro h
   exact UInt8.toNat_inj.1 (by omega)
 · rintro rfl;rfl
def wrB (i n:Nat) (c:UInt8):List UInt8 :=
 if c=0 then [92,48,48] else if (i=0∧(c=32∨c=35))∨(i+1=n∧c=32)∨c∈[34,43,44,59,60,62,92] then [92,c] else [c]
def wrL (n:Nat):Nat→List UInt8→List UInt8
 | _,[]=>[]
 | i,c::s=>wrB i n c++wrL n (i+1) s
def eG (s:List UInt8):List UInt8:=wrL s.length 0 s
theorem LE (i n:Nat) (c:UInt8):(wrB i n c).length≤3:=by
 unfold wrB;split
 · simp
 · split<;>simp
theorem eS {s:List UInt8} (hs:s.length≤100000) (h:K (.str (eG s)) L):ab Tryz.prog 115 [.str s] L K:=by
 replace h:=hid h
 have g0:IntKind.i64.wrap ((s.length:Int) - 1)=(s.length:Int) - 1:=ah (by omega) (by omega)
 refine aa CS (by simp [qr]) ?_
 simp only [qr,am]
 refine wk ?_
 refine cq (l:=[]) (n:=0) 3 1 rfl (Nat.zero_mul 1).symm ?_
 refine ax (fun n T' L'=>∃ (i m:Nat) (b:List UInt8),n=s.length - i∧i≤s.length∧m≤3 * i∧Hid (m=b.length∧b++wrL s.length i (s.drop i)=eG s)∧T'=[(10,.int .i64 (i:Int)),(9,.int .i64 s.length),(8,.sl (u8s s) s.length none),(3,.gsl (u8s b) m L.length 1),(0,.str s)]∧L'=L++[.spare m 1]) (CutS (b:=by simp)) ⟨0,0,[],rfl,Nat.zero_le _,by omega,hid ⟨rfl,rfl⟩,rfl,rfl⟩ ?_
 rintro _ _ _ ⟨i,m,b,rfl,hi,hm,hb,rfl,rfl⟩
 by_cases hlt:i<s.length
 · have g1:(i:Int)<(s.length:Int):=by omega
   have g2:IntKind.i64.wrap ((i:Int)+1)=(i:Int)+1:=ah (by omega) (by omega)
   obtain ⟨c,hc⟩:∃ c,s.getD i 0=c:=⟨_,rfl⟩
   have g3:(u8s s).getD i .undef=.int .u8 c.toNat:=by rw [← hc];simp [u8s,hlt]
   have hdr:s.drop i=c::s.drop (i+1):=by rw [List.drop_eq_getElem_cons hlt,← hc];simp [hlt]
   have hb2:=hb.out.2
   rw [hdr] at hb2
   simp only [wrL] at hb2
   have g4:=mO
   have g5:(u8s s).length=s.length:=by simp [u8s]
   clear hc hdr
   replace hb2:=hid hb2
   repeat' first
     | refine dT ?_
     | (first|refine cA (by kernel_rfl) ?_|refine bM (by kernel_rfl) ?_|refine bN ?_|refine fN ?_|refine ez (fun _=>?_)|refine bv ?_|refine cC ?_|refine zj ?_|refine eE (zj ⟨rfl,rfl⟩) (zj ⟨rfl,rfl⟩) ?_|refine bF (zj ⟨rfl,rfl⟩) ?_)
       refine sm ?_
     | (first|refine ct (by kernel_rfl) ?_|refine co ?_|refine cB ?_|refine eF (bu ?_))
       refine sl ?_
     | exact eA
     | first|apply eB|apply cu|apply eC|apply cv|apply eD|apply cw
     | refine bQ ?_
     | first|refine bO rfl ?_|refine bP rfl ?_|refine aX rfl ?_ ?_|refine bX rfl (fun _=>?_) (fun _=>?_)|refine bW rfl (fun _=>?_) (fun _=>?_)
     | ((first|refine aW (fun _=>?_) (fun _=>?_)|refine br (fun _=>?_) (fun _=>?_))<;>try refine sm ?_)
     | refine And.intro trivial ?_
     | refine And.intro (by omega) ?_
     | refine bR rfl (fun _=>?_) (fun _=>?_)
     | refine And.intro ?_ ?_
   · rfl
   · omega
   · rename_i h0
     have hc0:=(fE c 0).1 h0
     rw [show u8s b++AV.frzL (u8s [92,48,48])=u8s (b++[92,48,48]) by simp [u8s,AV.frzL,AV.frz]]
     refine ay _ _ _ (by omega) (CutL (b:=by simp)) ⟨i+1,m+3,b++[92,48,48],rfl,hlt,by omega,hid ⟨by simp [hb.out.1],?_⟩,rfl,rfl⟩
     rw [← hb2.out,wrB,if_pos hc0,List.append_assoc]
   · rename_i h0 h1
     have hc0:¬ c=0:=fun e=>h0 ((fE c 0).2 e)
     have hq:(i=0∧(c=32∨c=35))∨(i+1=s.length∧c=32)∨c∈[34,43,44,59,60,62,92]:=by
       rcases h1 with (⟨e1,e2⟩|⟨e1,e2⟩)|e
       · exact .inl ⟨by omega,e2.imp (fE c 32).1 (fE c 35).1⟩
       · exact .inr (.inl ⟨by omega,(fE c 32).1 e2⟩)
       · exact .inr (.inr ((Fc _ _).1 e))
     rw [show u8s b++[AV.int IntKind.u8 92,AV.int IntKind.u8 (c.toNat:Int)]=u8s (b++[92,c]) by simp [u8s]]
     refine ay _ _ _ (by omega) (CutL (b:=by simp)) ⟨i+1,m+1+1,b++[92,c],rfl,hlt,by omega,hid ⟨by simp [hb.out.1],?_⟩,rfl,rfl⟩
     rw [← hb2.out,wrB,if_neg hc0,if_pos hq,List.append_assoc]
   · rename_i h0 h1
     have hc0:¬ c=0:=fun e=>h0 ((fE c 0).2 e)
     have hq:¬ ((i=0∧(c=32∨c=35))∨(i+1=s.length∧c=32)∨c∈[34,43,44,59,60,62,92]):=fun hq=>h1 (by
       rcases hq with ⟨e1,e2⟩|⟨e1,e2⟩|e
       · exact .inl (.inl ⟨by omega,e2.imp (fE c 32).2 (fE c 35).2⟩)
       · exact .inl (.inr ⟨by omega,(fE c 32).2 e2⟩)
       · exact .inr ((Fc _ _).2 e))
     rw [show u8s b++[AV.int IntKind.u8 (c.toNat:Int)]=u8s (b++[c]) by simp [u8s]]
     refine ay _ _ _ (by omega) (CutL (b:=by simp)) ⟨i+1,m+1,b++[c],rfl,hlt,by omega,hid ⟨by simp [hb.out.1],?_⟩,rfl,rfl⟩
     rw [← hb2.out,wrB,if_neg hc0,if_neg hq,List.append_assoc]
 · have hke:i=s.length:=by omega
   subst hke
   have g1:¬ (s.length:Int)<(s.length:Int):=by omega
   have e1:=mO b
   have e2:=lI b
   have e:=hb.out.2
   rw [List.drop_length,wrL,List.append_nil] at e
   have h':=h.out
   rw [← e] at h'
   replace h':=hid h'
   clear e
   refine wk ?_
   exact ac rfl h'.out
abbrev Kc:List UInt8:=[34,43,44,59,60,62,92,32,35,61]
def mN:List UInt8→Bool→List UInt8→Option (List UInt8×List UInt8×Bool)
 | b,bl,[]=>some (b,[], !bl)
 | b,bl,c::s=>if c=44∨c=43 then some (b,c::s, !bl)
   else if c≠92 then (if c=0∨c∈([34,59,60,62]:List UInt8)∨(b=[]∧(c=32∨c=35)) then none else mN (b++[c]) (decide (c=32)) s)
   else match s with
     | []=>none
     | d::s1=>if d∈Kc then mN (b++[d]) false s1 else match s1 with
       | []=>none
       | e::s2=>match Ok d e with
         | none=>none
         | some x=>mN (b++[x]) false s2
theorem J6 {b:List UInt8} {bl:Bool}:mN b bl []=some (b,[], !bl):=by rw [mN.eq_def]
theorem IU {b:List UInt8} {bl:Bool} {c:UInt8} {s:List UInt8} (h:c=44∨c=43):mN b bl (c::s)=some (b,c::s, !bl):=by rw [mN.eq_def];simp only [if_pos h]
theorem Hm {b:List UInt8} {bl:Bool} {c:UInt8} {s:List UInt8} (h:¬ (c=44∨c=43)) (h2:c≠92):mN b bl (c::s)=if c=0∨c∈([34,59,60,62]:List UInt8)∨(b=[]∧(c=32∨c=35)) then none else mN (b++[c]) (decide (c=32)) s:=by
 rw [mN.eq_def];simp only [if_neg h,if_pos h2]
theorem IV {b:List UInt8} {bl:Bool} {d:UInt8} {s:List UInt8} (h:d∈Kc):mN b bl (92::d::s)=mN (b++[d]) false s:=by
 rw [mN.eq_def]
 simp only [show ¬ ((92:UInt8)=44∨(92:UInt8)=43) by decide,if_false,ne_eq,not_true_eq_false,if_pos h]
theorem J7 {b:List UInt8} {bl:Bool} {d e:UInt8} {s:List UInt8} (h:¬ d∈Kc):mN b bl (92::d::e::s)=match Ok d e with|none=>none|some x=>mN (b++[x]) false s:=by
 rw [mN.eq_def]
 simp only [show ¬ ((92:UInt8)=44∨(92:UInt8)=43) by decide,if_false,ne_eq,not_true_eq_false,if_neg h]
theorem Oq {s:List UInt8} {i:Nat} (h:i<s.length):s.drop i=s.getD i 0::s.drop (i+1):=by
 rw [List.drop_eq_getElem_cons h];simp [h]
def K2:List UInt8→Option (List UInt8×List UInt8)
 | []=>none
 | c::s=>if c=61 then some ([],s) else match K2 s with
   | none=>none
   | some (a,b)=>some (c::a,b)
abbrev Rdn:=List Ava
abbrev ao (r:Rdn):AV:=Ht r none
def Ky:Nat→List Rdn→Rdn→List UInt8→List Rdn×Int
 | 0,_,_,_=>([],4)
 | f+1,out,now,s=>if out.length=32∨now.length=8 then ([],9) else match K2 s with
   | none=>([],4)
   | some (typ,rest)=>if iA typ=false then ([],4) else if mC now typ=true then ([],21) else match mN [] false rest with
     | none=>([],4)
     | some (v,r2,ok)=>if ok=false then ([],4) else match r2 with
       | []=>(out++[now++[(typ,v)]],0)
       | c::s'=>if c=44 then Ky f (out++[now++[(typ,v)]]) [] s' else Ky f out (now++[(typ,v)]) s'
def Nw (s:List UInt8):List Rdn×Int:=if 4096<s.length then ([],5) else if s=[] then ([],0) else Ky (s.length+1) [] [] s
section
variable {P:Program} {N:Nat} {own:Nat→Nat→Nat} {Q:Exit→Tm→List Blk→Prop} {T:Tm} {L:List Blk}
theorem MN {lc:aS} (t sz B:Nat) {l:List AV} {n:Nat} {v:AV} (ht:aq T t=some v) (hB:B<L.length) (hv:(v=.sl [] 0 (some 0)∧l=[]∧n=0)∨∃ i,B<i∧v=.gsl l n i sz∧L[i]?=some (.spare n sz))
   (h:∀ i X,B<i→(L++X)[i]?=some (.spare n sz)→AW P N own lc Q ((t,.gsl l n i sz)::T) (L++X)):AW P N own lc Q T L:=by
 rcases hv with ⟨rfl,rfl,rfl⟩|⟨i,hBi,rfl,hi⟩
 · exact cq t sz ht (by simp) (h L.length [.spare 0 sz] hB (by simp))
 · have h':=h i [] hBi (by simpa using hi)
   rw [List.append_nil] at h'
   refine h'.weakT fun t' v' e=>?_
   simp only [aq] at e
   split at e
   · rename_i e1;subst e1;cases e;exact ht
   · exact e
end
set_option maxHeartbeats 8000000
set_option maxRecDepth 100000
def O4 (B:Nat) (r:Rdn) (v:AV) (L:List Blk):Prop:=(v=.sl [] 0 (some 0)∧aL r=[]∧r.length=0)∨∃ i,B<i∧v=.gsl (aL r) r.length i 2∧L[i]?=some (.spare r.length 2)
theorem iu (r:Rdn):AV.frzL (aL r)=aL r:=by
 induction r with
 | nil=>rfl
 | cons a r ih=>simpa [aL,lF,AV.frzL,AV.frz] using ih
theorem bc (d:List Rdn):AV.frzL (d.map ao)=d.map ao:=by
 rw [AV.frzL_eq,List.map_map]
 refine List.map_congr_left fun r _=>?_
 simp only [Function.comp,AV.frz,iu]
theorem JJ (q:Nat→Bool) (r:Rdn):AV.refsL q (aL r)=true:=by
 induction r with
 | nil=>rfl
 | cons a r ih=>simpa [aL,lF,AV.refsL,AV.refs] using ih
theorem fc (q:Nat→Bool):∀ d:List Rdn,AV.refsL q (d.map ao)=true
 | []=>rfl
 | r::d=>by simp only [List.map_cons,AV.refsL,AV.refs,JJ,fc q d,Bool.and_self]
theorem Db {s:List UInt8} (h:iA s=true):s.length≤32:=by
 simp only [iA,Bool.and_eq_true,decide_eq_true_eq] at h
 exact h.1.1.2
variable {L:List Blk} {K:AV→List Blk→Prop}
def cr:Rdn→Rdn→Int
 | _,[]=>0
 | done,a::t=>if done.length=8 then 9 else if iA a.1=false then 20 else if mC done a.1=true then 21 else cr (done++[a]) t
def fz:Nat→List Rdn→Int
 | _,[]=>0
 | i,r::t=>if i=32 then 9 else if r=[] then 2 else if cr [] r≠0 then cr [] r else fz (i+1) t
theorem ij {d:List Rdn} {k:Nat} (h:k<d.length):(d.map ao).getD k .undef=ao (d.getD k []):=by simp [h]
theorem zY {r:Rdn} {k:Nat}:(aL r).take (k * 2)=aL (r.take k):=by
 induction r generalizing k with
 | nil=>simp [aL]
 | cons a r ih =>
   cases k with
   | zero=>simp [aL]
   | succ k =>
     have:=@ih k
     simp only [aL] at this
     rw [show (k+1) * 2=k * 2+1+1 by omega]
     simp [aL,lF,this]
theorem NG {r:Rdn} {typ:List UInt8} {n:Nat} {cap:Option Nat} (hr:r.length=n) (hn:n≤8) (h1:∀ a∈r,a.1.length≤32) (h2:typ.length≤32) (h:K (.bool (mC r typ)) L) :
   ab Tryz.prog 119 [.sl (aL r) n cap,.str typ] L K:=by
 subst hr
 exact Ol (by omega) (fun a ha=>by have:=h1 a ha;omega) (by omega) h
theorem Mu {d:List Rdn} {cap:Option Nat} (hn:d.length≤1100000) (hr:∀ r∈d,r.length≤1100000) (h:K (.int .i64 (fz 0 d)) L):ab Tryz.prog 76 [.sl (d.map ao) d.length cap] L K:=by
 replace h:=hid h
 have hat:=hid (fun k=>@ij d k)
 replace hr:=hid hr
 refine aa EC (by simp [xG]) ?_
 simp only [xG,am]
 refine wk ?_
 refine ax (fun n T' L'=>∃ (i:Nat) (X:List Blk),n=d.length - i∧i≤d.length∧i≤32∧Hid (fz i (d.drop i)=fz 0 d)∧T'=[(9,.int .i64 (i:Int)),(8,.int .i64 d.length),(7,.sl (d.map ao) d.length cap)]∧L'=L++X) (CutS (b:=by simp)) ⟨0,[],rfl,Nat.zero_le _,by omega,hid rfl,rfl,by simp⟩ ?_
 rintro _ _ _ ⟨i,X,rfl,hi,hi32,he,rfl,rfl⟩
 by_cases hlt:i<d.length
 · have g1:(i:Int)<(d.length:Int):=by omega
   have g2:IntKind.i64.wrap ((i:Int)+1)=(i:Int)+1:=ah (by omega) (by omega)
   have e2:=hat.out i hlt
   have hrl:=hr.out (d.getD i []) (by rw [List.getD_eq_getElem?_getD,List.getElem?_eq_getElem hlt];exact List.getElem_mem _)
   obtain ⟨r,hri⟩:∃ r,d.getD i []=r:=⟨_,rfl⟩
   have hdr:d.drop i=r::d.drop (i+1):=by rw [List.drop_eq_getElem_cons hlt,← hri];simp [hlt]
   rw [hri] at e2 hrl
   have he2:=he.out
   rw [hdr,fz] at he2
   clear hdr hri
   by_cases h32:i=32
   · rw [if_pos h32] at he2
     have h':=h.out
     rw [← he2] at h'
     replace h':=hid h'
     have k1:(i:Int)=32:=by omega
     have g1':(32:Int)<(d.length:Int):=by omega
     clear h32 he2
     refine wk ?_
     exact ac rfl h'.out
   rw [if_neg h32] at he2
   have k1:¬ (i:Int)=32:=by omega
   by_cases hr0:r=[]
   · rw [if_pos hr0] at he2
     subst hr0
     have h':=h.out
     rw [← he2] at h'
     replace h':=hid h'
     clear h32 he2
     refine wk ?_
     exact ac rfl h'.out
   rw [if_neg hr0] at he2
   have k2:¬ (r.length:Int)=0:=by have:=List.length_pos_iff.2 hr0;omega
   have herr:∀ e:Int,cr [] r=e→e≠0→K (.int .i64 e) L:=fun e a1 a2=>by
     rw [if_pos (by rw [a1];exact a2),a1] at he2
     rw [he2];exact h.out
   replace herr:=hid herr
   replace he2:=hid he2
   clear h32
   refine wk ?_
   refine ax (fun n T' L'=>∃ (k:Nat) (Y:List Blk),n=r.length - k∧k≤r.length∧k≤8∧Hid (cr (r.take k) (r.drop k)=cr [] r∧∀ a∈r.take k,a.1.length≤32)∧T'=[(23,.int .i64 (k:Int)),(22,.int .i64 r.length),(21,ao r),(4,ao r),(9,.int .i64 (i:Int)),(8,.int .i64 d.length),(7,.sl (d.map ao) d.length cap)]∧L'=L++(X++Y)) (CutS (b:=by simp)) ⟨0,[],rfl,Nat.zero_le _,by omega,hid ⟨rfl,by simp⟩,rfl,by simp⟩ ?_
   rintro _ _ _ ⟨k,Y,rfl,hk,hk8,hrow,rfl,rfl⟩
   by_cases hkl:k<r.length
   · have g3:(k:Int)<(r.length:Int):=by omega
     have g4:IntKind.i64.wrap ((k:Int)+1)=(k:Int)+1:=ah (by omega) (by omega)
     have e3:=dQ hkl
     have e4:k * 2+2≤(aL r).length:=by rw [bt];omega
     obtain ⟨⟨ty,va⟩,ha⟩:∃ a,r.getD k ([],[])=a:=⟨_,rfl⟩
     have hdk:r.drop k=(ty,va)::r.drop (k+1):=by rw [List.drop_eq_getElem_cons hkl,← ha];simp [hkl]
     have htk:r.take (k+1)=r.take k++[(ty,va)]:=by rw [List.take_succ_eq_append_getElem hkl,← ha];simp [hkl]
     rw [ha] at e3
     simp only [lF] at e3
     obtain ⟨hr1,hr2⟩:=hrow.out
     rw [hdk,cr] at hr1
     have hlk:(r.take k).length=k:=by simp;omega
     rw [hlk] at hr1
     clear hdk ha hrow
     have e5:(aL r).take (k * 2)=aL (r.take k):=zY
     have g5:(k:Int)≤(r.length:Int):=by omega
     replace hr1:=hid hr1
     replace hr2:=hid hr2
     replace htk:=hid htk
     have e6:=hid hlk
     clear hlk
     repeat' first
       | refine dT ?_
       | (first|refine cA (by kernel_rfl) ?_|refine bM (by kernel_rfl) ?_|refine bN ?_|refine fN ?_|refine ez (fun _=>?_)|refine bv ?_|refine cC ?_)
         refine sm ?_
       | (first|refine ct (by kernel_rfl) ?_|refine co ?_|refine cB ?_|refine eF (bu ?_))
         refine sl ?_
       | exact eA
       | first|apply eB|apply cu|apply eC|apply cv|apply eD|apply cw
       | refine bQ ?_
       | first|refine bO rfl ?_|refine bP rfl ?_|refine aX rfl ?_ ?_|refine bX rfl (fun _=>?_) (fun _=>?_)|refine bW rfl (fun _=>?_) (fun _=>?_)
       | ((first|refine aW (fun _=>?_) (fun _=>?_)|refine br (fun _=>?_) (fun _=>?_))<;>try refine sm ?_)
       | refine And.intro trivial ?_
       | refine And.intro (by omega) ?_
       | refine bR rfl (fun _=>?_) (fun _=>?_)
       | refine And.intro ?_ ?_
     · rename_i h8
       have h':=herr.out 9 (by rw [← hr1.out,if_pos (by omega)]) (by decide)
       exact ac rfl h'
     · rename_i h8
       have hr3:=hr1.out
       rw [if_neg (by omega)] at hr3
       refine Nn ?_
       cases hty:iA ty with
       | false =>
         have h':=hid (herr.out 20 (by rw [← hr3,if_pos hty]) (by decide))
         clear hr3
         refine sk ?_
         refine wk ?_
         exact ac rfl h'.out
       | true =>
         rw [if_neg (by rw [hty];simp)] at hr3
         replace hr3:=hid hr3
         have htl:=Db hty
         refine sk ?_
         repeat' first
           | refine dT ?_
           | (first|refine cA (by kernel_rfl) ?_|refine bM (by kernel_rfl) ?_|refine bN ?_|refine fN ?_|refine ez (fun _=>?_)|refine bv ?_|refine cC ?_)
             refine sm ?_
           | (first|refine ct (by kernel_rfl) ?_|refine co ?_|refine cB ?_|refine eF (bu ?_))
             refine sl ?_
           | exact eA
           | first|apply eB|apply cu|apply eC|apply cv|apply eD|apply cw
           | refine bQ ?_
           | first|refine bO rfl ?_|refine bP rfl ?_|refine aX rfl ?_ ?_|refine bX rfl (fun _=>?_) (fun _=>?_)|refine bW rfl (fun _=>?_) (fun _=>?_)
           | ((first|refine aW (fun _=>?_) (fun _=>?_)|refine br (fun _=>?_) (fun _=>?_))<;>try refine sm ?_)
           | refine And.intro trivial ?_
           | refine And.intro (by omega) ?_
           | refine bR rfl (fun _=>?_) (fun _=>?_)
           | refine And.intro ?_ ?_
         refine bF (NG e6.out (by omega) hr2.out htl ⟨rfl,rfl⟩) ?_
         cases hha:mC (r.take k) ty with
         | true =>
           have h':=hid (herr.out 21 (by rw [← hr3.out,if_pos hha]) (by decide))
           refine sk ?_
           refine wk ?_
           exact ac rfl h'.out
         | false =>
           have hr4:=hr3.out
           rw [if_neg (by rw [hha];simp),← htk.out] at hr4
           replace hr4:=hid hr4
           clear hr3
           refine sk ?_
           refine wk ?_
           refine ay _ _ _ (by omega) (CutS (b:=by simp)) ⟨k+1,Y++[.cells [.str ty,.str va]],rfl,hkl,by omega,hid ⟨hr4.out,fun a ha=>?_⟩,rfl,by simp⟩
           rw [htk.out] at ha
           rcases List.mem_append.1 ha with h|h
           · exact hr2.out a h
           · rw [List.mem_singleton.1 h];exact htl
   · have hke:k=r.length:=by omega
     subst hke
     have g3:¬ (r.length:Int)<(r.length:Int):=by omega
     have hz:=hrow.out.1
     rw [List.drop_length,cr] at hz
     have he3:=he2.out
     rw [← hz] at he3
     simp only [ne_eq,not_true_eq_false,if_false] at he3
     replace he3:=hid he3
     clear hz
     refine wk ?_
     exact ay _ _ _ (by omega) (CutS (b:=by simp)) ⟨i+1,X++Y,rfl,hlt,by omega,hid he3.out,rfl,rfl⟩
 · have hke:i=d.length:=by omega
   subst hke
   have g1:¬ (d.length:Int)<(d.length:Int):=by omega
   have h':=h.out
   rw [← he.out,List.drop_length,fz] at h'
   replace h':=hid h'
   refine wk ?_
   exact ac rfl h'.out
end Go.Proofs.YtdhjplmjpjfjnaaGreat.Av
