/- Joined texts of the walk, made small by a program. -/
import Derived.Test.YtolfghcbbpcciaaGreatDoorGP4
import Derived.Test.YtolfghcbbpcciaaGreatDoorRows
import Derived.KernelRfl
import Derived.Test.YtolfghcbbpcciaaGreatDoorGP5
set_option linter.unusedSimpArgs false
set_option linter.unusedVariables false
set_option maxRecDepth 100000
namespace Go.Proofs.YtolfghcbbpcciaaGreatDoor.Av
open Go
def zL:LSO:=[Am 2]
def zK:LSO:=[Aa 6 0,o1 7 (.s2bO (tm 6)),Aa 3 7]
def zJ:LSO:=[Aa 8 3,Ak 9 8,Ab 10 0]
def zI:LSO:=[Aj 11 10 9]
def zH:LSO:=[Aa 12 10,Ao 13 1 8 10,Ac 14 1 13,Aa 4 12,Aa 5 14]
def zG:LSO:=[Aa 15 5,BN 16 15,Aa 17 16,.grp none 17 true
 [Ae 18 17 5,og 19 17 true (.bin .leq (tm 18) (.av (.int .u8 90)))]
 20 (tm 19)]
def zF:LSO:=[Aa 21 3,Aa 22 4,Aa 23 5,o1 24 (.bin .add (tm 23) (.av (.int .u8 32))),Ao 25 1 21 22,An 1 25 24]
def zE:LSO:=[Ag 26 10 1,Aa 10 26]
def zD:LSO:=[Aa 27 3,AH 28 27,Aa 2 28]
def qn:ba:=⟨29,(.seq (.sreg zL [])
 (.seq (.sreg zK BW)
 (.seq (.seq (.sreg zJ [])
 (.block 0 (.loop (.seq (.sreg zI [])
 (.seq (.cond (tm 11) .skip
 (.exit 0))
 (.seq (.block 1 (.seq (.sreg zH Cc)
 (.seq (.sreg zG BX)
 (.cond (tm 20) (.sreg zF Ch)
 .skip))))
 (.sreg zE BV)))))))
 (.seq (.sreg zD BW)
 .ret)))),[(.tmp 2)]⟩
attribute [push_cast] zL zK zJ zI zH zG zF zE zD
theorem Kq:bb Tryz.prog (fun r i=>if r=1∧i=1 then 2 else 1) 78=some qn.raw:=by kernel_rfl
def zC:LSO:=[Am 2]
def zB:LSO:=[Ai 3]
def zA:LSO:=[Aa 6 0,Al 7 78 6,o1 8 (.s2b (tm 7)),Ak 9 8,Ab 10 0]
def zy:LSO:=[Aj 11 10 9]
def zx:LSO:=[Ao 12 1 8 10,Ac 13 1 12,Aa 5 13]
def zw:LSO:=[Aa 14 5,o1 15 (.bin .eql (tm 14) (.av (.int .u8 32))),Aa 16 15,.grp none 16 true
 [Ae 17 16 3,Bg 18 16 17,Bd 19 16 18 0,Ae 20 16 19,.grp (some (16,true)) 20 false
 [Af 21 20 3,Af 22 20 3,AY 23 20 22,B5 24 20 23 1,og 25 20 false (.iaddr 1 (tm 21) (tm 24)),AB 26 20 1 25,BO 27 20 26]
 28 (tm 27)]
 29 (tm 28)]
def zu:LSO:=[Aa 30 3,Aa 31 5,AD 32 31,A8 33 30 32,Aa 3 33]
def zt:LSO:=[Ag 34 10 1,Aa 10 34]
def zr:LSO:=[Aa 35 3,Ak 36 35,Az 37 36 0,Aa 38 37,.grp none 38 true
 [Ae 39 38 3,Ae 40 38 3,Bg 41 38 40,B6 42 38 41 1,Bo 43 38 1 39 42,AU 44 38 1 43,Bf 45 38 44]
 46 (tm 45)]
def zq:LSO:=[Aa 47 3,Aa 48 3,Ak 49 48,AA 50 49 1,o1 51 (.slV 1 (tm 47) none (some (tm 50)) none),Aa 3 51]
def uP:LSO:=[Aa 52 3,AH 53 52,Aa 2 53]
def qm:ba:=⟨54,(.seq (.sreg zC [])
 (.seq (.sreg zB [])
 (.seq (.seq (.sreg zA Cp)
 (.block 0 (.loop (.seq (.sreg zy [])
 (.seq (.cond (tm 11) .skip
 (.exit 0))
 (.seq (.block 1 (.seq (.sreg zx BW)
 (.seq (.seq (.sreg zw BX)
 (.cond (tm 29) (.exit 1)
 .skip))
 (.sreg zu BY))))
 (.sreg zt BV)))))))
 (.seq (.seq (.sreg zr BY)
 (.cond (tm 46) (.sreg zq BZ)
 .skip))
 (.seq (.sreg uP BW)
 .ret))))),[(.tmp 2)]⟩
attribute [push_cast] zC zB zA zy zx zw zu zt zr zq uP
theorem Kp:bb Tryz.prog (fun _ _=>1) 82=some qm.raw:=by kernel_rfl
def yV:LSO:=[Am 2]
def yU:LSO:=[Ai 3]
def yT:LSO:=[Ab 4 0]
def yS:LSO:=[Aa 6 4,Aa 7 0,Ap 8 7,Aj 9 6 8]
def yR:LSO:=[Aa 12 0,Aa 13 4,A0 14 12 13,Aa 5 14]
def yQ:LSO:=[Aa 15 5,BN 16 15,Aa 17 16,.grp none 17 true
 [Ae 18 17 5,og 19 17 true (.bin .leq (tm 18) (.av (.int .u8 90)))]
 20 (tm 19)]
def yP:LSO:=[Aa 21 5,o1 22 (.bin .sub (tm 21) (.av (.int .u8 65))),o1 23 (.bin .add (tm 22) (.av (.int .u8 97))),Aa 5 23]
def yO:LSO:=[Aa 24 3,Aa 25 5,AD 26 25,A8 27 24 26,Aa 3 27]
def yN:LSO:=[Aa 10 4,Ag 11 10 1,Aa 4 11]
def yM:LSO:=[Aa 28 3,AH 29 28,Aa 2 29]
def qi:ba:=⟨30,(.seq (.sreg yV [])
 (.seq (.sreg yU [])
 (.seq (.seq (.sreg yT [])
 (.block 0 (.loop (.seq (.seq (.sreg yS BX)
 (.cond (tm 9) .skip
 (.exit 0)))
 (.seq (.block 1 (.seq (.sreg yR BX)
 (.seq (.seq (.sreg yQ BX)
 (.cond (tm 20) (.sreg yP BX)
 .skip))
 (.sreg yO BY))))
 (.sreg yN BW))))))
 (.seq (.sreg yM BW)
 .ret)))),[(.tmp 2)]⟩
attribute [push_cast] yV yU yT yS yR yQ yP yO yN yM
theorem Km:bb Tryz.prog (fun _ _=>1) 37=some qi.raw:=by kernel_rfl
def yL:LSO:=[Am 2]
def yK:LSO:=[Aa 8 0,Al 9 37 8,Aa 3 9]
def yJ:LSO:=[Ai 4]
def yI:LSO:=[Ab 5 0]
def yH:LSO:=[Aa 10 5,Aa 11 3,Ap 12 11,Aj 13 10 12]
def yG:LSO:=[Ah 6]
def yF:LSO:=[Aa 16 5,Aa 7 16]
def yE:LSO:=[Aa 17 7,Aa 18 3,Ap 19 18,Aj 20 17 19,Aa 21 20,.grp none 21 true
 [Ae 22 21 6,og 23 21 true (.un .not (tm 22))]
 24 (tm 23)]
def yD:LSO:=[Aa 27 3,Aa 28 7,A0 29 27 28,o1 30 (.bin .neq (tm 29) (.av (.int .u8 32))),Aa 6 30]
def yC:LSO:=[Aa 25 7,Ag 26 25 1,Aa 7 26]
def tW:LSO:=[Aa 31 6,Ax 32 31,Aa 33 32,.grp none 33 false
 [Af 34 33 3,Af 35 33 5,Be 36 33 34 35,BO 37 33 36,Af 38 33 37,.grp (some (33,false)) 38 true
 [Ae 39 38 4,Bg 40 38 39,Bd 41 38 40 0,Ae 42 38 41,.grp (some (38,true)) 42 false
 [Af 43 42 3,Af 44 42 5,B5 45 42 44 1,Be 46 42 43 45,BO 47 42 46]
 48 (tm 47)]
 49 (tm 48)]
 50 (tm 49)]
def tV:LSO:=[Aa 51 4,Aa 52 3,Aa 53 5,A0 54 52 53,AD 55 54,A8 56 51 55,Aa 4 56]
def tU:LSO:=[Aa 14 5,Ag 15 14 1,Aa 5 15]
def tT:LSO:=[Aa 57 4,AH 58 57,Aa 2 58]
def qh:ba:=⟨59,(.seq (.sreg yL [])
 (.seq (.sreg yK BW)
 (.seq (.sreg yJ [])
 (.seq (.seq (.sreg yI [])
 (.block 0 (.loop (.seq (.seq (.sreg yH BX)
 (.cond (tm 13) .skip
 (.exit 0)))
 (.seq (.block 1 (.seq (.sreg yG [])
 (.seq (.seq (.sreg yF BV)
 (.block 2 (.loop (.seq (.seq (.sreg yE BZ)
 (.cond (tm 24) .skip
 (.exit 2)))
 (.seq (.block 3 (.sreg yD BY))
 (.sreg yC BW))))))
 (.seq (.seq (.sreg tW BX)
 (.cond (tm 50) (.exit 1)
 .skip))
 (.sreg tV Cb)))))
 (.sreg tU BW))))))
 (.seq (.sreg tT BW)
 .ret))))),[(.tmp 2)]⟩
attribute [push_cast] yL yK yJ yI yH yG yF yE yD yC tW tV tU tT
theorem Kl:bb Tryz.prog (fun _ _=>1) 56=some qh.raw:=by kernel_rfl
def zp:LSO:=[BP 2,Ah 3]
def zo:LSO:=[Aa 5 0,o1 6 (.bin .geq (tm 5) (.av (.int .u8 48))),Aa 7 6,.grp none 7 true
 [Ae 8 7 0,og 9 7 true (.bin .leq (tm 8) (.av (.int .u8 57)))]
 10 (tm 9),Aa 4 10]
def zn:LSO:=[Aa 11 0,Bl 12 11,Aa 2 12,Aw 3]
def zm:LSO:=[Aa 14 0,o1 15 (.bin .geq (tm 14) (.av (.int .u8 97))),Aa 16 15,.grp none 16 true
 [Ae 17 16 0,og 18 16 true (.bin .leq (tm 17) (.av (.int .u8 102)))]
 19 (tm 18),Aa 13 19]
def zl:LSO:=[Aa 20 0,o1 21 (.bin .sub (tm 20) (.av (.int .u8 97))),o1 22 (.bin .add (tm 21) (.av (.int .u8 10))),Aa 2 22,Aw 3]
def zk:LSO:=[Aa 24 0,BN 25 24,Aa 26 25,.grp none 26 true
 [Ae 27 26 0,og 28 26 true (.bin .leq (tm 27) (.av (.int .u8 70)))]
 29 (tm 28),Aa 23 29]
def zj:LSO:=[Aa 30 0,o1 31 (.bin .sub (tm 30) (.av (.int .u8 65))),o1 32 (.bin .add (tm 31) (.av (.int .u8 10))),Aa 2 32,Aw 3]
def zi:LSO:=[BP 2,Ah 3]
def ql:ba:=⟨33,(.seq (.sreg zp [])
 (.seq (.block 0 (.seq (.sreg zo BY)
 (.cond (tm 4) (.seq (.sreg zn Cf)
 .ret)
 (.seq (.sreg zm BY)
 (.cond (tm 13) (.seq (.sreg zl Cc)
 .ret)
 (.seq (.sreg zk BY)
 (.cond (tm 23) (.seq (.sreg zj Cc)
 .ret)
 .skip)))))))
 (.seq (.sreg zi [])
 .ret))),[(.tmp 2),(.tmp 3)]⟩
attribute [push_cast] zp zo zn zm zl zk zj zi
theorem Ko:bb Tryz.prog (fun _ _=>1) 161=some ql.raw:=by kernel_rfl
def uO:LSO:=[Am 2,Ah 3]
def uN:LSO:=[Aa 10 0,Ap 11 10,o1 12 (.bin .rem (tm 11) (iv 2)),Aq 13 12 1]
def uM:LSO:=[Am 2,Ah 3]
def uL:LSO:=[Aa 14 0,Ap 15 14,o1 16 (.bin .quo (tm 15) (iv 2)),o1 17 (.mkslice 1 1 [(.int .u8 0)] (iv 0) (tm 16)),Aa 4 17]
def uK:LSO:=[Ab 5 0]
def uJ:LSO:=[Aa 18 5,Aa 19 0,Ap 20 19,Aj 21 18 20]
def uI:LSO:=[Aa 25 0,Aa 26 5,A0 27 25 26,Al 28 161 27,Aa 24 28,Ar 29 24,As 30 24,Aa 6 29,Aa 7 30]
def uH:LSO:=[Aa 32 0,Aa 33 5,Ag 34 33 1,A0 35 32 34,Al 36 161 35,Aa 31 36,Ar 37 31,As 38 31,Aa 8 37,Aa 9 38]
def uG:LSO:=[Aa 39 7,Ax 40 39,Aa 41 40,.grp none 41 false
 [Af 42 41 9,Bc 43 41 42]
 44 (tm 43)]
def uF:LSO:=[Am 2,Ah 3]
def pm:LSO:=[Aa 45 4,Aa 46 6,o1 47 (.bin .shl (tm 46) (.av (.int .u64 4))),Aa 48 8,o1 49 (.bin .or (tm 47) (tm 48)),AD 50 49,A8 51 45 50,Aa 4 51]
def pk:LSO:=[Aa 22 5,Ag 23 22 2,Aa 5 23]
def pj:LSO:=[Aa 52 4,AH 53 52,Aa 2 53,Aw 3]
def ln:ba:=⟨54,(.seq (.sreg uO [])
 (.seq (.seq (.sreg uN BX)
 (.cond (tm 13) (.seq (.sreg uM [])
 .ret)
 .skip))
 (.seq (.sreg uL BY)
 (.seq (.seq (.sreg uK [])
 (.block 0 (.loop (.seq (.seq (.sreg uJ BX)
 (.cond (tm 21) .skip
 (.exit 0)))
 (.seq (.block 1 (.seq (.sreg uI Co)
 (.seq (.sreg uH Cs)
 (.seq (.seq (.sreg uG BX)
 (.cond (tm 44) (.seq (.sreg uF [])
 .ret)
 .skip))
 (.sreg pm Ce)))))
 (.sreg pk BW))))))
 (.seq (.sreg pj Cf)
 .ret))))),[(.tmp 2),(.tmp 3)]⟩
attribute [push_cast] uO uN uM uL uK uJ uI uH uG uF pm pk pj
theorem Jd:bb Tryz.prog (fun _ _=>1) 155=some ln.raw:=by kernel_rfl
def tG:LSO:=[BP 2]
def tF:LSO:=[Aa 3 0,o1 4 (.bin .lss (tm 3) (.av (.int .u8 10)))]
def tE:LSO:=[Aa 5 0,o1 6 (.bin .add (.av (.int .u8 48)) (tm 5)),Aa 2 6]
def tD:LSO:=[Aa 7 0,o1 8 (.bin .add (.av (.int .u8 97)) (tm 7)),o1 9 (.bin .sub (tm 8) (.av (.int .u8 10))),Aa 2 9]
def k8:ba:=⟨10,(.seq (.sreg tG [])
 (.seq (.seq (.sreg tF BV)
 (.cond (tm 4) (.seq (.sreg tE BW)
 .ret)
 .skip))
 (.seq (.sreg tD BX)
 .ret))),[(.tmp 2)]⟩
attribute [push_cast] tG tF tE tD
theorem I8:bb Tryz.prog (fun _ _=>1) 150=some k8.raw:=by kernel_rfl
def tQ:LSO:=[Am 2,Ah 3]
def tP:LSO:=[Ai 4]
def tO:LSO:=[Aa 9 0,Al 10 37 9,Aa 5 10]
def tN:LSO:=[Ab 6 0]
def tM:LSO:=[Aa 11 6,Ag 12 11 1,Aa 13 5,Ap 14 13,Aj 15 12 14]
def tL:LSO:=[Ah 7]
def tK:LSO:=[Ab 8 0]
def tJ:LSO:=[Aa 18 8,AK 19 18 256,Aa 20 19,.grp none 20 true
 [Ae 21 20 7,og 22 20 true (.un .not (tm 21))]
 23 (tm 22)]
def tI:LSO:=[Aa 26 8,o1 27 (.bin .quo (tm 26) (iv 16)),o1 28 (.conv .u8 (tm 27)),Al 29 150 28,Aa 30 5,Aa 31 6,A0 32 30 31,A9 33 29 32,Aa 34 33,.grp none 34 true
 [Ae 35 34 8,By 36 34 35 16,og 37 34 true (.conv .u8 (tm 36)),A5 38 34 150 37,Ae 39 34 5,Ae 40 34 6,og 41 34 true (.bin .add (tm 40) (iv 1)),AF 42 34 39 41,
 og 43 34 true (.bin .eql (tm 38) (tm 42))]
 44 (tm 43)]
def tH:LSO:=[Aa 45 4,Aa 46 8,o1 47 (.conv .u8 (tm 46)),AD 48 47,A8 49 45 48,Aa 4 49]
def oB:LSO:=[Aw 7]
def oA:LSO:=[Aa 24 8,Ag 25 24 1,Aa 8 25]
def oz:LSO:=[Aa 50 7,Ax 51 50]
def oy:LSO:=[Am 2,Ah 3]
def ox:LSO:=[Aa 16 6,Ag 17 16 2,Aa 6 17]
def ow:LSO:=[Aa 52 0,Ap 53 52,o1 54 (.bin .rem (tm 53) (iv 2)),Aq 55 54 1]
def ov:LSO:=[Am 2,Ah 3]
def ou:LSO:=[Aa 56 4,AH 57 56,Aa 2 57,Aw 3]
def k9:ba:=⟨58,(.seq (.sreg tQ [])
 (.seq (.sreg tP [])
 (.seq (.sreg tO BW)
 (.seq (.seq (.sreg tN [])
 (.block 0 (.loop (.seq (.seq (.sreg tM BY)
 (.cond (tm 15) .skip
 (.exit 0)))
 (.seq (.block 1 (.seq (.sreg tL [])
 (.seq (.seq (.sreg tK [])
 (.block 2 (.loop (.seq (.seq (.sreg tJ BX)
 (.cond (tm 23) .skip
 (.exit 2)))
 (.seq (.block 3 (.seq (.sdreg tI [.pure,.pure,.pure,(.read 0 0),.pure,.pure,(.read 0 0),.pure,.pure,.pure,.pure,.pure,(.read 0 0),.pure,.pure,.pure,(.read 0 0)] Cv)
 (.cond (tm 44) (.seq (.sreg tH BZ)
 (.sreg oB []))
 .skip)))
 (.sreg oA BW))))))
 (.seq (.sreg oz BV)
 (.cond (tm 51) (.seq (.sreg oy [])
 .ret)
 .skip)))))
 (.sreg ox BW))))))
 (.seq (.seq (.sreg ow BX)
 (.cond (tm 55) (.seq (.sreg ov [])
 .ret)
 .skip))
 (.seq (.sreg ou Cf)
 .ret)))))),[(.tmp 2),(.tmp 3)]⟩
attribute [push_cast] tQ tP tO tN tM tL tK tJ tI tH oB oA oz oy ox ow ov ou
theorem I9:bb Tryz.prog (fun _ _=>1) 135=some k9.raw:=by kernel_rfl
variable {L:List Blk} {K:AV→List Blk→Prop}
set_option maxHeartbeats 8000000
set_option maxRecDepth 100000
def iE (c:UInt8):UInt8:=if 65≤c.toNat∧c.toNat≤90 then c+32 else c
def ak (s:List UInt8):List UInt8:=s.map iE
theorem QK {c:UInt8} (h1:65≤c.toNat) (h2:c.toNat≤90):((iE c).toNat:Int)=(c.toNat:Int)+32:=by
 rw [iE,if_pos ⟨h1,h2⟩,UInt8.toNat_add]
 have:(32:UInt8).toNat=32:=rfl
 omega
theorem Lp {c:UInt8} (h:¬ (65≤c.toNat∧c.toNat≤90)):iE c=c:=by rw [iE,if_neg h]
theorem fU (l:List UInt8):(u8s l).all PS=true:=by
 simp only [u8s,List.all_map,List.all_eq_true]
 intro x _
 have:=x.toNat_lt
 simp [PS]
theorem fD (l:List UInt8):(u8s l).map Nk=l:=by
 induction l with
 | nil=>rfl
 | cons x l ih =>
   simp only [u8s,List.map_cons,List.map_map] at ih ⊢
   rw [ih]
   simp [Nk]
theorem Ku (l:List UInt8) (c:UInt8):u8s (l++[c])=u8s l++[.int .u8 c.toNat]:=by simp [u8s]
theorem LH {s:List UInt8} {k:Nat} (h:k<s.length):ak (s.take (k+1))=ak (s.take k)++[iE (s.getD k 0)]:=by
 rw [List.take_succ_eq_append_getElem h,ak,List.map_append]
 simp [ak,h]
theorem bL {s:List UInt8} (hs:(s.length:Int)≤140737488351232) (h:K (.str (ak s)) L):ao Tryz.prog 37 [.str s] L K:=by
 replace h:=hid h
 refine ag Km (by simp [qi]) ?_
 simp only [qi,aN]
 refine wk ?_
 refine cM (l:=[]) (n:=0) 3 1 rfl (Nat.zero_mul 1).symm ?_
 refine aI (fun n T' L'=>∃ (k:Nat) (v:List AV),n=s.length - k∧k≤s.length∧v=u8s (ak (s.take k))∧T'=[(4,.int .i64 (k:Int)),(3,.gsl v k L.length 1),(2,.str []),(0,.str s)]∧L'=L++[.spare k 1]) (CutS (b:=by simp)) ⟨0,[],rfl,Nat.zero_le _,rfl,rfl,rfl⟩ ?_
 rintro _ _ _ ⟨k,v,rfl,hk,rfl,rfl,rfl⟩
 by_cases hlt:k<s.length
 · have h1:(k:Int)<(s.length:Int):=by omega
   have h2:IntKind.i64.wrap ((k:Int)+1)=(k:Int)+1:=ac (by omega) (by omega)
   have hsucc:=hid (LH hlt)
   have e:s.getD k 0=s.getD k 0:=rfl
   obtain ⟨c,hc⟩:∃ c,s.getD k 0=c:=⟨_,rfl⟩
   rw [hc] at hsucc
   have hc255:=c.toNat_lt
   by_cases hu:65≤c.toNat∧c.toNat≤90
   · have u1:(65:Int)≤(c.toNat:Int):=by omega
     have u2:(c.toNat:Int)≤90:=by omega
     have u3:=hid (QK hu.1 hu.2)
     have u4:IntKind.u8.wrap ((c.toNat:Int) - 65)=(c.toNat:Int) - 65:=bQ (by omega) (by omega)
     have u5:IntKind.u8.wrap ((c.toNat:Int) - 65+97)=(c.toNat:Int) - 65+97:=bQ (by omega) (by omega)
     clear hu
     refine wk ?_
     refine az _ _ _ (by omega) (CutS (b:=by simp)) ⟨k+1,_,rfl,hlt,?_,rfl,rfl⟩
     rw [hsucc.out,Ku,u3.out]
     simp only [show (c.toNat:Int) - 65+97=c.toNat+32 by omega]
   · have u3:=hid (Lp hu)
     have u4:¬ ((65:Int)≤(c.toNat:Int)∧(c.toNat:Int)≤90):=by omega
     have u5:(decide ((65:Int)≤(c.toNat:Int)) && decide ((c.toNat:Int)≤90))=false:=by simp;omega
     clear hu
     repeat' first
       | refine aT ?_
       | (first|refine aG (by kernel_rfl) ?_|refine ap (by kernel_rfl) ?_|refine aq ?_|refine aZ ?_|refine aO (fun _=>?_)|refine aj ?_|refine aK ?_)
         refine sm ?_
       | (first|refine aC (by kernel_rfl) ?_|refine aH ?_|refine aJ ?_|refine aU (ai ?_))
         refine sl ?_
       | exact aP
       | first|apply aQ|apply aD|apply aR|apply aE|apply aS|apply aF
       | refine aw ?_
       | first|refine ar rfl ?_|refine au rfl ?_|refine af rfl ?_ ?_|refine ay rfl (fun _=>?_) (fun _=>?_)|refine ax rfl (fun _=>?_) (fun _=>?_)
       | ((first|refine ae (fun _=>?_) (fun _=>?_)|refine ah (fun _=>?_) (fun _=>?_))<;>try refine sm ?_)
       | refine And.intro trivial ?_
       | refine And.intro (by omega) ?_
       | refine aA rfl (fun _=>?_) (fun _=>?_)
       | refine And.intro ?_ ?_
     all_goals first
       | omega
       | (refine az _ _ _ (by omega) (CutS (b := by simp)) ⟨k + 1, _, rfl, hlt, ?_, rfl, rfl⟩
          rw [hsucc.out,Ku,u3.out])
 · have hke:k=s.length:=by omega
   subst hke
   have h1:¬ (s.length:Int)<(s.length:Int):=by omega
   have e1:=fU (ak s)
   have e2:=fD (ak s)
   have e3:s.take s.length=s:=List.take_length
   refine wk ?_
   exact aa rfl h.out
theorem H9 {s:List UInt8} (hs:(s.length:Int)≤140737488351232) (h:K (.str (ak s)) L):ao Tryz.prog 78 [.str s] L K:=by
 replace h:=hid h
 refine ag Kq (by simp [qn]) ?_
 simp only [qn,aN]
 refine wk ?_
 refine aI (fun n T' L'=>∃ (k:Nat) (v:List AV),n=s.length - k∧k≤s.length∧v=u8s (ak (s.take k)++s.drop k)∧T'=[(10,.int .i64 (k:Int)),(9,.int .i64 s.length),(8,.lsl L.length 0 s.length none 1),(3,.lsl L.length 0 s.length none 1),(2,.str [])]∧L'=L++[.bytes v]) (CutS (b:=by simp)) ⟨0,_,rfl,Nat.zero_le _,rfl,rfl,rfl⟩ ?_
 rintro _ _ _ ⟨k,v,rfl,hk,hv,rfl,rfl⟩
 by_cases hlt:k<s.length
 · have h1:(k:Int)<(s.length:Int):=by omega
   have h2:IntKind.i64.wrap ((k:Int)+1)=(k:Int)+1:=ac (by omega) (by omega)
   obtain ⟨c,hc⟩:∃ c,s.getD k 0=c:=⟨_,rfl⟩
   have hd:s.drop k=c::s.drop (k+1):=by
     rw [List.drop_eq_getElem_cons hlt,← hc,List.getD_eq_getElem?_getD,List.getElem?_eq_getElem hlt];rfl
   have hlk:(ak (s.take k)).length=k:=by simp [ak];omega
   have hv1:v=u8s (ak (s.take k)) ++ .int .u8 c.toNat::u8s (s.drop (k+1)):=by rw [hv,hd];simp [u8s]
   have hl2:(u8s (ak (s.take k))).length=k:=by simp [u8s,hlk]
   have hvl:v.length=s.length:=by rw [hv];simp [u8s,ak];omega
   have hvk:k<v.length:=by omega
   have hvg:v.getD k .undef=.int .u8 c.toNat:=by rw [hv1];simp [List.getD_eq_getElem?_getD,List.getElem?_append_right,hl2]
   have hsucc:=LH hlt
   rw [hc] at hsucc
   have hnew:u8s (ak (s.take (k+1))++s.drop (k+1))=u8s (ak (s.take k)) ++ .int .u8 (iE c).toNat::u8s (s.drop (k+1)):=by rw [hsucc];simp [u8s]
   have hspl:∀ x,v.take k++x::v.drop (k+1)=u8s (ak (s.take k))++x::u8s (s.drop (k+1)):=fun x=>by
     rw [hv1,List.take_left' hl2,List.drop_append,hl2,List.drop_eq_nil_of_le (by omega),show k+1 - k=1 by omega];rfl
   clear hv hd hlk hsucc
   replace hv1:=hid hv1
   replace hnew:=hid hnew
   replace hspl:=hid hspl
   have hc255:=c.toNat_lt
   by_cases hu:65≤c.toNat∧c.toNat≤90
   · have u1:(65:Int)≤(c.toNat:Int):=by omega
     have u2:(c.toNat:Int)≤90:=by omega
     have u3:=hid (QK hu.1 hu.2)
     have u4:IntKind.u8.wrap ((c.toNat:Int)+32)=(c.toNat:Int)+32:=bQ (by omega) (by omega)
     clear hu
     refine wk ?_
     refine az _ _ _ (by omega) (CutS (b:=by simp)) ⟨k+1,_,rfl,hlt,?_,rfl,rfl⟩
     rw [hnew.out,u3.out]
     exact hspl.out _
   · have u3:=hid (Lp hu)
     have u5:(decide ((65:Int)≤(c.toNat:Int)) && decide ((c.toNat:Int)≤90))=false:=by simp;omega
     clear hu
     repeat' first
       | refine aT ?_
       | (first|refine aG (by kernel_rfl) ?_|refine ap (by kernel_rfl) ?_|refine aq ?_|refine aZ ?_|refine aO (fun _=>?_)|refine aj ?_|refine aK ?_)
         refine sm ?_
       | (first|refine aC (by kernel_rfl) ?_|refine aH ?_|refine aJ ?_|refine aU (ai ?_))
         refine sl ?_
       | exact aP
       | first|apply aQ|apply aD|apply aR|apply aE|apply aS|apply aF
       | refine aw ?_
       | first|refine ar rfl ?_|refine au rfl ?_|refine af rfl ?_ ?_|refine ay rfl (fun _=>?_) (fun _=>?_)|refine ax rfl (fun _=>?_) (fun _=>?_)
       | ((first|refine ae (fun _=>?_) (fun _=>?_)|refine ah (fun _=>?_) (fun _=>?_))<;>try refine sm ?_)
       | refine And.intro trivial ?_
       | refine And.intro (by omega) ?_
       | refine aA rfl (fun _=>?_) (fun _=>?_)
       | refine And.intro ?_ ?_
     all_goals first
       | omega
       | (refine az _ _ _ (by omega) (CutS (b := by simp)) ⟨k + 1, _, rfl, hlt, ?_, rfl, rfl⟩
          rw [hnew.out,u3.out]
          exact hv1.out)
 · have hke:k=s.length:=by omega
   subst hke
   have h1:¬ (s.length:Int)<(s.length:Int):=by omega
   have hv1:v=u8s (ak s):=by rw [hv];simp
   clear hv
   subst hv1
   have e1:=fU (ak s)
   have e2:=fD (ak s)
   have e4:(u8s (ak s)).length=s.length:=by simp [u8s,ak]
   have e5:(u8s (ak s)).take s.length=u8s (ak s):=by rw [← e4];exact List.take_length
   refine wk ?_
   exact aa rfl h.out
theorem ig {s:List UInt8} (hs:(s.length:Int)≤100000) (h:K (.str (ak s)) L):ao Tryz.prog 37 [.str s] L K:=bL (by omega) h
theorem CF {s:List UInt8} (hs:(s.length:Int)≤100000) (h:K (.str (ak s)) L):ao Tryz.prog 78 [.str s] L K:=H9 (by omega) h
def gi (c:UInt8):Option Nat:=if 48≤c.toNat∧c.toNat≤57 then some (c.toNat - 48) else if 97≤c.toNat∧c.toNat≤102 then some (c.toNat - 87) else if 65≤c.toNat∧c.toNat≤70 then some (c.toNat - 55) else none
theorem Db {c:UInt8} {x:Nat} (h:gi c=some x):x<16:=by
 unfold gi at h
 split at h
 · cases h;omega
 · split at h
   · cases h;omega
   · split at h
     · cases h;omega
     · cases h
theorem PV {c:UInt8} {L:List Blk} {K:AV→List Blk→Prop} (h:K (.tup [.int .u8 ((gi c).getD 0:Nat),.bool (gi c).isSome]) L):ao Tryz.prog 161 [.int .u8 c.toNat] L K:=by
 have hc:=c.toNat_lt
 obtain ⟨n,hn⟩:∃ n,c.toNat=n:=⟨_,rfl⟩
 unfold gi at h
 rw [hn] at h hc ⊢
 clear hn
 refine ag Ko (by simp [ql]) ?_
 simp only [ql,aN]
 by_cases h1:48≤n∧n≤57
 · rw [if_pos h1] at h
   replace h:=hid h
   obtain ⟨a1,a2⟩:=h1
   have b1:(48:Int)≤(n:Int):=by omega
   have b2:(n:Int)≤57:=by omega
   have b3:IntKind.u8.wrap ((n:Int) - 48)=(n:Int) - 48:=bQ (by omega) (by omega)
   clear a1 a2
   refine wk ?_
   refine ab ?_
   have:=h.out
   simpa [show ((n - 48:Nat):Int)=(n:Int) - 48 by omega] using this
 · rw [if_neg h1] at h
   have c1:(decide ((48:Int)≤(n:Int)) && decide ((n:Int)≤57))=false:=by simp;omega
   by_cases h2:97≤n∧n≤102
   · rw [if_pos h2] at h
     replace h:=hid h
     obtain ⟨a1,a2⟩:=h2
     have b1:(97:Int)≤(n:Int):=by omega
     have b2:(n:Int)≤102:=by omega
     have b4:IntKind.u8.wrap ((n:Int) - 97)=(n:Int) - 97:=bQ (by omega) (by omega)
     have b5:IntKind.u8.wrap ((n:Int) - 97+10)=(n:Int) - 97+10:=bQ (by omega) (by omega)
     clear a1 a2 h1
     refine wk ?_
     refine ab ?_
     have:=h.out
     simpa [show ((n - 87:Nat):Int)=(n:Int) - 97+10 by omega] using this
   · rw [if_neg h2] at h
     have c2:(decide ((97:Int)≤(n:Int)) && decide ((n:Int)≤102))=false:=by simp;omega
     by_cases h3:65≤n∧n≤70
     · rw [if_pos h3] at h
       replace h:=hid h
       obtain ⟨a1,a2⟩:=h3
       have b1:(65:Int)≤(n:Int):=by omega
       have b2:(n:Int)≤70:=by omega
       have b4:IntKind.u8.wrap ((n:Int) - 65)=(n:Int) - 65:=bQ (by omega) (by omega)
       have b5:IntKind.u8.wrap ((n:Int) - 65+10)=(n:Int) - 65+10:=bQ (by omega) (by omega)
       clear a1 a2 h1 h2
       refine wk ?_
       refine ab ?_
       have:=h.out
       simpa [show ((n - 55:Nat):Int)=(n:Int) - 65+10 by omega] using this
     · rw [if_neg h3] at h
       have c3:(decide ((65:Int)≤(n:Int)) && decide ((n:Int)≤70))=false:=by simp;omega
       replace h:=hid h
       clear h1 h2 h3
       repeat' first
         | refine aT ?_
         | (first|refine aG (by kernel_rfl) ?_|refine ap (by kernel_rfl) ?_|refine aq ?_|refine aZ ?_|refine aO (fun _=>?_)|refine aj ?_|refine aK ?_)
           refine sm ?_
         | (first|refine aC (by kernel_rfl) ?_|refine aH ?_|refine aJ ?_|refine aU (ai ?_))
           refine sl ?_
         | exact aP
         | first|apply aQ|apply aD|apply aR|apply aE|apply aS|apply aF
         | refine aw ?_
         | first|refine ar rfl ?_|refine au rfl ?_|refine af rfl ?_ ?_|refine ay rfl (fun _=>?_) (fun _=>?_)|refine ax rfl (fun _=>?_) (fun _=>?_)
         | ((first|refine ae (fun _=>?_) (fun _=>?_)|refine ah (fun _=>?_) (fun _=>?_))<;>try refine sm ?_)
         | refine And.intro trivial ?_
         | refine And.intro (by omega) ?_
         | refine aA rfl (fun _=>?_) (fun _=>?_)
         | refine And.intro ?_ ?_
       all_goals first
         | omega
         | (refine ab ?_;simpa using h.out)
def H6 (a b:UInt8):Option UInt8:=match gi a,gi b with
 | some x,some y=>some (UInt8.ofNat (16 * x+y))
 | _,_=>none
def FY (a b:UInt8):AV:=match H6 a b with
 | some c=>.tup [.str [c],.bool true]
 | none=>.tup [.str [],.bool false]
theorem V3:∀ x y:_root_.Fin 16,IntKind.u8.wrap (((BitVec.ofInt IntKind.u8.bits (IntKind.u8.wrap ((x.val:Int) * 2 ^ min 4 IntKind.u8.bits)) ||| BitVec.ofInt IntKind.u8.bits (y.val:Int)).toNat:Nat):Int)=16 * (x.val:Int)+(y.val:Int):=by decide +kernel
theorem Ss {a b:UInt8} (h:K (FY a b) L):ao Tryz.prog 155 [.str [a,b]] L K:=by
 have hl:[a,b].length=2:=rfl
 have ha:[a,b].getD 0 0=a:=rfl
 have hb:[a,b].getD 1 0=b:=rfl
 have d1:IntKind.i64.wrap (Int.tdiv 2 2)=1:=by decide
 have d2:Int.tmod 2 2=0:=by decide
 have d3:cY [AV.int IntKind.u8 0] 1=[AV.int IntKind.u8 0]:=rfl
 have d4:IntKind.i64.wrap 1=1:=by decide
 have d5:IntKind.i64.wrap 2=2:=by decide
 replace h:=hid h
 refine ag Jd (by simp [ln]) ?_
 simp only [ln,aN]
 refine wk ?_
 refine aI (fun n T' L'=>(n=1∧T'=[(5,.int .i64 0),(4,.lsl L.length 0 0 (some 1) 1),(0,.str [a,b])]∧L'=L++[.cells [.int .u8 0]])∨(n=0∧∃ x y:Nat,Hid (gi a=some x)∧Hid (gi b=some y)∧T'=[(5,.int .i64 2),(4,.lsl (L.length+1) 0 1 none 1),(0,.str [a,b])]∧L'=L++[.dead,.cells [.int .u8 ((16 * x+y:Nat):Int)]])) (n0:=1) (T0:=[(5,.int .i64 0),(4,.lsl L.length 0 0 (some 1) 1),(0,.str [a,b])]) (L0:=L++[.cells [.int .u8 0]]) (CutS (b:=by simp)) (.inl ⟨rfl,rfl,rfl⟩) ?_
 rintro _ _ _ (⟨rfl,rfl,rfl⟩|⟨rfl,x,y,hx,hy,rfl,rfl⟩)
 · rcases hx:gi a with _|x
   · have h':=h.out
     simp only [FY,H6,hx] at h'
     replace h':=hid h'
     have e1:(gi a).getD 0=0:=by rw [hx];rfl
     have e2:(gi a).isSome=false:=by rw [hx];rfl
     clear hx
     have kk1:=@hid _ @PV
     refine wk ?_
     exact aa rfl h'.out
   · have e1:(gi a).getD 0=x:=by rw [hx];rfl
     have e2:(gi a).isSome=true:=by rw [hx];rfl
     have hx':=hid hx
     rcases hy:gi b with _|y
     · have h':=h.out
       simp only [FY,H6,hx,hy] at h'
       replace h':=hid h'
       have e3:(gi b).getD 0=0:=by rw [hy];rfl
       have e4:(gi b).isSome=false:=by rw [hy];rfl
       clear hx hy
       have kk1:=@hid _ @PV
       refine wk ?_
       exact aa rfl h'.out
     · have e3:(gi b).getD 0=y:=by rw [hy];rfl
       have e4:(gi b).isSome=true:=by rw [hy];rfl
       have hy':=hid hy
       have e5:=V3 ⟨x,Db hx⟩ ⟨y,Db hy⟩
       simp only at e5
       clear hx hy
       have kk1:=@hid _ @PV
       refine wk ?_
       refine az 0 _ _ (by omega) (CutL (b:=by simp)) (.inr ⟨rfl,x,y,hid rfl,hid rfl,rfl,?_⟩)
       first|rfl|rw [e5]
 · have h':=h.out
   simp only [FY,H6,hx.out,hy.out] at h'
   replace h':=hid h'
   have lx:=Db hx.out
   have ly:=Db hy.out
   have u1:PS (.int .u8 (16 * (x:Int)+(y:Int)))=true:=rfl
   have u2:Nk (.int .u8 (16 * (x:Int)+(y:Int)))=UInt8.ofNat (16 * x+y):=by
     simp only [Nk]
     rw [show (16 * (x:Int)+(y:Int)).toNat=16 * x+y by omega]
   refine wk ?_
   exact aa rfl h'.out
def JX (b:List UInt8):Bool:=b.isEmpty || b.getLast? == some 32
def cn (b:List UInt8) (c:UInt8):List UInt8:=if c=32∧JX b=true then b else b++[c]
def fN (s:List UInt8):List UInt8:=s.foldl cn []
def lu (b:List UInt8):List UInt8:=if b.getLast?=some 32 then b.dropLast else b
def dH (s:List UInt8):List UInt8:=lu (fN (ak s))
theorem HU (b:List UInt8) (c:UInt8):(cn b c).length≤b.length+1:=by
 unfold cn;split<;>simp
theorem pN {s:List UInt8} {k:Nat} (h:k<s.length):fN (s.take (k+1))=cn (fN (s.take k)) (s.getD k 0):=by
 rw [List.take_succ_eq_append_getElem h,fN,List.foldl_append]
 simp [fN,h]
theorem po (s:List UInt8):∀ k,(fN (s.take k)).length≤k
 | 0=>by simp [fN]
 | k+1=>by
   have ih:=po s k
   by_cases h:k<s.length
   · rw [pN h]
     have:=HU (fN (s.take k)) (s.getD k 0)
     omega
   · rw [List.take_of_length_le (by omega),← List.take_of_length_le (l:=s) (i:=k) (by omega)];omega
theorem pM {s:List UInt8} (hs:(s.length:Int)≤100000) (h:K (.str (dH s)) L):ao Tryz.prog 82 [.str s] L K:=by
 replace h:=hid h
 refine ag Kp (by simp [qm]) ?_
 simp only [qm,aN]
 obtain ⟨t,ht⟩:∃ t,ak s=t:=⟨_,rfl⟩
 have htl:(t.length:Int)≤100000:=by rw [← ht];simpa [ak] using hs
 have kk1:=@hid _ (fun L K=>CF hs (L:=L) (K:=K))
 refine wk ?_
 refine cM (l:=[]) (n:=0) 3 1 rfl (Nat.zero_mul 1).symm ?_
 refine aI (fun n T' L'=>∃ (k:Nat) (b:List UInt8) (v:List AV) (m:Nat),n=t.length - k∧k≤t.length∧b=fN (t.take k)∧v=u8s b∧m=b.length∧T'=[(10,.int .i64 (k:Int)),(9,.int .i64 t.length),(8,.sl (u8s t) t.length none),(3,.gsl v m L.length 1),(2,.str [])]∧L'=L++[.spare m 1]) (CutS (b:=by simp)) ⟨0,[],[],0,rfl,Nat.zero_le _,rfl,rfl,rfl,rfl,rfl⟩ ?_
 rintro _ _ _ ⟨k,b,v,m,rfl,hk,hb,rfl,rfl,rfl,rfl⟩
 replace hb:=hid hb
 by_cases hlt:k<t.length
 · have h1:(k:Int)<(t.length:Int):=by omega
   have h2:IntKind.i64.wrap ((k:Int)+1)=(k:Int)+1:=ac (by omega) (by omega)
   have hsucc:=hid (pN hlt)
   obtain ⟨c,hc⟩:∃ c,t.getD k 0=c:=⟨_,rfl⟩
   have hg:(u8s t).getD k .undef=.int .u8 c.toNat:=by simp [u8s,hlt,← hc]
   have hlk:k<(u8s t).length:=by simpa [u8s] using hlt
   rw [hc] at hsucc
   have hbl:b.length≤k:=by rw [hb.out];exact po t k
   have hstep:∀ b',b'=cn b c→b'=fN (t.take (k+1)):=fun b' e=>by rw [hsucc.out,← hb.out];exact e
   have c32:((c.toNat:Int)=32)↔c=32:=⟨fun e=>UInt8.toNat_inj.1 (by have:(32:UInt8).toNat=32:=rfl;omega),fun e=>by rw [e];rfl⟩
   replace hstep:=hid hstep
   replace c32:=hid c32
   clear hsucc hb hc
   have hub:(u8s b).length=b.length:=by simp [u8s]
   have rest:∀ b',b'=cn b c→b'.length≤b.length+1:=fun b' e=>by rw [e];exact HU b c
   clear rest
   by_cases hc:(c.toNat:Int)=32
   · rcases List.eq_nil_or_concat b with hb0|⟨d,x,hb0⟩
     · have e0:(b.length:Int)=0:=by rw [hb0];rfl
       have e1:=hid (hstep.out b (by rw [cn,if_pos ⟨c32.out.1 hc,by rw [hb0];rfl⟩]))
       clear hb0
       refine wk ?_
       exact az _ _ _ (by omega) (CutS (b:=by simp)) ⟨k+1,b,_,_,rfl,hlt,e1.out,rfl,rfl,rfl,rfl⟩
     · have e0:¬ (b.length:Int)=0:=by rw [hb0];simp;omega
       have e1:IntKind.i64.wrap ((b.length:Int) - 1)=(d.length:Int):=by rw [ac (by omega) (by omega),hb0];simp
       have e2:(u8s b).getD d.length .undef=.int .u8 x.toNat:=by rw [hb0];simp [u8s,List.getD_eq_getElem?_getD]
       have e3:d.length<(u8s b).length:=by rw [hb0];simp [u8s]
       have e4:(d.length:Int)<(b.length:Int):=by rw [hb0];simp;omega
       have x32:x=32↔(x.toNat:Int)=32:=⟨fun e=>by rw [e];rfl,fun e=>UInt8.toNat_inj.1 (by have:(32:UInt8).toNat=32:=rfl;omega)⟩
       have hend:JX b=true↔x=32:=by rw [hb0];simp [JX]
       replace hb0:=hid hb0
       replace x32:=hid x32
       replace hend:=hid hend
       by_cases hx:(x.toNat:Int)=32
       · have e5:=hid (hstep.out b (by rw [cn,if_pos ⟨c32.out.1 hc,hend.out.2 (x32.out.2 hx)⟩]))
         refine wk ?_
         exact az _ _ _ (by omega) (CutS (b:=by simp)) ⟨k+1,b,_,_,rfl,hlt,e5.out,rfl,rfl,rfl,rfl⟩
       · have e5:=hid (hstep.out (b++[c]) (by rw [cn,if_neg fun e=>hx (x32.out.1 (hend.out.1 e.2))]))
         refine wk ?_
         exact az _ _ _ (by omega) (CutS (b:=by simp)) ⟨k+1,b++[c],_,_,rfl,hlt,e5.out,(by rw [Ku,hc]),(by simp),rfl,rfl⟩
   · have e1:=hid (hstep.out (b++[c]) (by rw [cn,if_neg fun e=>hc (c32.out.2 e.1)]))
     refine wk ?_
     exact az _ _ _ (by omega) (CutS (b:=by simp)) ⟨k+1,b++[c],_,_,rfl,hlt,e1.out,(Ku b c).symm,(by simp),rfl,rfl⟩
 · have hke:k=t.length:=by omega
   subst hke
   have h1:¬ (t.length:Int)<(t.length:Int):=by omega
   have hbl:b.length≤t.length:=by rw [hb.out];exact po t _
   have hub:(u8s b).length=b.length:=by simp [u8s]
   have hfin:lu b=dH s:=by rw [dH,ht,hb.out,List.take_length]
   have e1:=fU b
   have e2:=fD b
   replace hb:=hid hfin
   clear hfin
   rcases List.eq_nil_or_concat b with hb0|⟨d,x,hb0⟩
   · have e0:¬ (0:Int)<(b.length:Int):=by rw [hb0];simp
     have e3:=hid (show b=dH s by rw [← hb.out,hb0];rfl)
     clear hb0
     refine wk ?_
     refine aa rfl ?_
     rw [e3.out];exact h.out
   · have e0:(0:Int)<(b.length:Int):=by rw [hb0];simp;try omega
     have e3:IntKind.i64.wrap ((b.length:Int) - 1)=(d.length:Int):=by rw [ac (by omega) (by omega),hb0];simp
     have e4:(u8s b).getD d.length .undef=.int .u8 x.toNat:=by rw [hb0];simp [u8s,List.getD_eq_getElem?_getD]
     have e5:d.length<(u8s b).length:=by rw [hb0];simp [u8s]
     have e6:(d.length:Int)<(b.length:Int):=by rw [hb0];simp;omega
     have e7:(u8s b).take d.length=u8s d:=by rw [hb0];simp [u8s]
     have e10:(u8s d).length=d.length:=by simp [u8s]
     have e8:=fU d
     have e9:=fD d
     have x32:x=32↔(x.toNat:Int)=32:=⟨fun e=>by rw [e];rfl,fun e=>UInt8.toNat_inj.1 (by have:(32:UInt8).toNat=32:=rfl;omega)⟩
     have htr:lu b=if x=32 then d else b:=by rw [hb0];simp [lu]
     replace hb0:=hid hb0
     replace htr:=hid htr
     by_cases hx:(x.toNat:Int)=32
     · have r:=hid (show d=dH s by rw [← hb.out,htr.out,if_pos (x32.2 hx)])
       replace x32:=hid x32
       refine wk ?_
       refine aa rfl ?_
       rw [r.out];exact h.out
     · have r:=hid (show b=dH s by rw [← hb.out,htr.out,if_neg fun e=>hx (x32.1 e)])
       replace x32:=hid x32
       refine wk ?_
       refine aa rfl ?_
       rw [r.out];exact h.out
end Go.Proofs.YtolfghcbbpcciaaGreatDoor.Av
