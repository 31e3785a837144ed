/- Joined texts of the walk, made small by a program. -/
import Derived.Test.YtkkgmgmgcgiffaaGreatDoorUP4
import Derived.Test.YtkkgmgmgcgiffaaGreatDoorRows
import Derived.KernelRfl
import Derived.Test.YtkkgmgmgcgiffaaGreatDoorUP5
set_option linter.unusedSimpArgs false
set_option linter.unusedVariables false
set_option maxRecDepth 100000
namespace Go.Proofs.YtkkgmgmgcgiffaaGreatDoor.Av
open Go
def zG:LSO:=[Ao 2]
def zF:LSO:=[Aa 6 0,o1 7 (.s2bO (tm 6)),Aa 3 7]
def zE:LSO:=[Aa 8 3,An 9 8,Ab 10 0]
def zD:LSO:=[Ak 11 10 9]
def zC:LSO:=[Aa 12 10,Aq 13 1 8 10,Ad 14 1 13,Aa 4 12,Aa 5 14]
def zB:LSO:=[Aa 15 5,BY 16 15,Aa 17 16,.grp none 17 true
 [Ae 18 17 5,og 19 17 true (.bin .leq (tm 18) (.av (.int .u8 90)))]
 20 (tm 19)]
def zA:LSO:=[Aa 21 3,Aa 22 4,Aa 23 5,o1 24 (.bin .add (tm 23) (.av (.int .u8 32))),Aq 25 1 21 22,Ai 1 25 24]
def zy:LSO:=[Ah 26 10 1,Aa 10 26]
def zx:LSO:=[Aa 27 3,AO 28 27,Aa 2 28]
def rJ:aW:=⟨29,(.seq (.sreg zG [])
 (.seq (.sreg zF Ch)
 (.seq (.seq (.sreg zE [])
 (.block 0 (.loop (.seq (.sreg zD [])
 (.seq (.cond (tm 11) .skip
 (.exit 0))
 (.seq (.block 1 (.seq (.sreg zC Co)
 (.seq (.sreg zB Ci)
 (.cond (tm 20) (.sreg zA Cy)
 .skip))))
 (.sreg zy Cg)))))))
 (.seq (.sreg zx Ch)
 .ret)))),[(.tmp 2)]⟩
attribute [push_cast] zG zF zE zD zC zB zA zy zx
theorem Lv:bb Tryz.prog (fun r i=>if r=1∧i=1 then 2 else 1) 61=some rJ.raw:=by kernel_rfl
def zw:LSO:=[Ao 2]
def zu:LSO:=[Am 3]
def zt:LSO:=[Aa 6 0,Aj 7 61 6,o1 8 (.s2b (tm 7)),An 9 8,Ab 10 0]
def zr:LSO:=[Ak 11 10 9]
def zq:LSO:=[Aq 12 1 8 10,Ad 13 1 12,Aa 5 13]
def zp:LSO:=[Aa 14 5,o1 15 (.bin .eql (tm 14) (.av (.int .u8 32))),Aa 16 15,.grp none 16 true
 [Ae 17 16 3,Bu 18 16 17,AX 19 16 18 0,Ae 20 16 19,.grp (some (16,true)) 20 false
 [Ag 21 20 3,Ag 22 20 3,Bm 23 20 22,BW 24 20 23 1,og 25 20 false (.iaddr 1 (tm 21) (tm 24)),A8 26 20 1 25,BZ 27 20 26]
 28 (tm 27)]
 29 (tm 28)]
def zo:LSO:=[Aa 30 3,Aa 31 5,AK 32 31,AH 33 30 32,Aa 3 33]
def zn:LSO:=[Ah 34 10 1,Aa 10 34]
def zm:LSO:=[Aa 35 3,An 36 35,A0 37 36 0,Aa 38 37,.grp none 38 true
 [Ae 39 38 3,Ae 40 38 3,Bu 41 38 40,BL 42 38 41 1,Bj 43 38 1 39 42,A4 44 38 1 43,Bt 45 38 44]
 46 (tm 45)]
def zl:LSO:=[Aa 47 3,Aa 48 3,An 49 48,Bk 50 49 1,o1 51 (.slV 1 (tm 47) none (some (tm 50)) none),Aa 3 51]
def vO:LSO:=[Aa 52 3,AO 53 52,Aa 2 53]
def rI:aW:=⟨54,(.seq (.sreg zw [])
 (.seq (.sreg zu [])
 (.seq (.seq (.sreg zt C7)
 (.block 0 (.loop (.seq (.sreg zr [])
 (.seq (.cond (tm 11) .skip
 (.exit 0))
 (.seq (.block 1 (.seq (.sreg zq Ch)
 (.seq (.seq (.sreg zp Ci)
 (.cond (tm 29) (.exit 1)
 .skip))
 (.sreg zo Cj))))
 (.sreg zn Cg)))))))
 (.seq (.seq (.sreg zm Cj)
 (.cond (tm 46) (.sreg zl Ck)
 .skip))
 (.seq (.sreg vO Ch)
 .ret))))),[(.tmp 2)]⟩
attribute [push_cast] zw zu zt zr zq zp zo zn zm zl vO
theorem Lu:bb Tryz.prog (fun _ _=>1) 80=some rI.raw:=by kernel_rfl
def zc:LSO:=[Ao 2]
def zb:LSO:=[Am 3]
def za:LSO:=[Ab 4 0]
def y9:LSO:=[Aa 6 4,Aa 7 0,Ar 8 7,Ak 9 6 8]
def y8:LSO:=[Aa 12 0,Aa 13 4,A9 14 12 13,Aa 5 14]
def y7:LSO:=[Aa 15 5,BY 16 15,Aa 17 16,.grp none 17 true
 [Ae 18 17 5,og 19 17 true (.bin .leq (tm 18) (.av (.int .u8 90)))]
 20 (tm 19)]
def y6:LSO:=[Aa 21 5,o1 22 (.bin .sub (tm 21) (.av (.int .u8 65))),o1 23 (.bin .add (tm 22) (.av (.int .u8 97))),Aa 5 23]
def y5:LSO:=[Aa 24 3,Aa 25 5,AK 26 25,AH 27 24 26,Aa 3 27]
def y2:LSO:=[Aa 10 4,Ah 11 10 1,Aa 4 11]
def y1:LSO:=[Aa 28 3,AO 29 28,Aa 2 29]
def rG:aW:=⟨30,(.seq (.sreg zc [])
 (.seq (.sreg zb [])
 (.seq (.seq (.sreg za [])
 (.block 0 (.loop (.seq (.seq (.sreg y9 Ci)
 (.cond (tm 9) .skip
 (.exit 0)))
 (.seq (.block 1 (.seq (.sreg y8 Ci)
 (.seq (.seq (.sreg y7 Ci)
 (.cond (tm 20) (.sreg y6 Ci)
 .skip))
 (.sreg y5 Cj))))
 (.sreg y2 Ch))))))
 (.seq (.sreg y1 Ch)
 .ret)))),[(.tmp 2)]⟩
attribute [push_cast] zc zb za y9 y8 y7 y6 y5 y2 y1
theorem Lr:bb Tryz.prog (fun _ _=>1) 67=some rG.raw:=by kernel_rfl
def y0:LSO:=[Ao 2]
def yZ:LSO:=[Aa 8 0,Aj 9 67 8,Aa 3 9]
def yY:LSO:=[Am 4]
def yX:LSO:=[Ab 5 0]
def yW:LSO:=[Aa 10 5,Aa 11 3,Ar 12 11,Ak 13 10 12]
def yV:LSO:=[Af 6]
def yU:LSO:=[Aa 16 5,Aa 7 16]
def yT:LSO:=[Aa 17 7,Aa 18 3,Ar 19 18,Ak 20 17 19,Aa 21 20,.grp none 21 true
 [Ae 22 21 6,Bv 23 21 22]
 24 (tm 23)]
def yS:LSO:=[Aa 27 3,Aa 28 7,A9 29 27 28,o1 30 (.bin .neq (tm 29) (.av (.int .u8 32))),Aa 6 30]
def yR:LSO:=[Aa 25 7,Ah 26 25 1,Aa 7 26]
def vD:LSO:=[Aa 31 6,Ay 32 31,Aa 33 32,.grp none 33 false
 [Ag 34 33 3,Ag 35 33 5,Bq 36 33 34 35,BZ 37 33 36,Ag 38 33 37,.grp (some (33,false)) 38 true
 [Ae 39 38 4,Bu 40 38 39,AX 41 38 40 0,Ae 42 38 41,.grp (some (38,true)) 42 false
 [Ag 43 42 3,Ag 44 42 5,BW 45 42 44 1,Bq 46 42 43 45,BZ 47 42 46]
 48 (tm 47)]
 49 (tm 48)]
 50 (tm 49)]
def vC:LSO:=[Aa 51 4,Aa 52 3,Aa 53 5,A9 54 52 53,AK 55 54,AH 56 51 55,Aa 4 56]
def vB:LSO:=[Aa 14 5,Ah 15 14 1,Aa 5 15]
def vA:LSO:=[Aa 57 4,AO 58 57,Aa 2 58]
def rF:aW:=⟨59,(.seq (.sreg y0 [])
 (.seq (.sreg yZ Ch)
 (.seq (.sreg yY [])
 (.seq (.seq (.sreg yX [])
 (.block 0 (.loop (.seq (.seq (.sreg yW Ci)
 (.cond (tm 13) .skip
 (.exit 0)))
 (.seq (.block 1 (.seq (.sreg yV [])
 (.seq (.seq (.sreg yU Cg)
 (.block 2 (.loop (.seq (.seq (.sreg yT Ck)
 (.cond (tm 24) .skip
 (.exit 2)))
 (.seq (.block 3 (.sreg yS Cj))
 (.sreg yR Ch))))))
 (.seq (.seq (.sreg vD Ci)
 (.cond (tm 50) (.exit 1)
 .skip))
 (.sreg vC Cl)))))
 (.sreg vB Ch))))))
 (.seq (.sreg vA Ch)
 .ret))))),[(.tmp 2)]⟩
attribute [push_cast] y0 yZ yY yX yW yV yU yT yS yR vD vC vB vA
theorem Lq:bb Tryz.prog (fun _ _=>1) 97=some rF.raw:=by kernel_rfl
def zk:LSO:=[Ca 2,Af 3]
def zj:LSO:=[Aa 5 0,o1 6 (.bin .geq (tm 5) (.av (.int .u8 48))),Aa 7 6,.grp none 7 true
 [Ae 8 7 0,og 9 7 true (.bin .leq (tm 8) (.av (.int .u8 57)))]
 10 (tm 9),Aa 4 10]
def zi:LSO:=[Aa 11 0,BD 12 11,Aa 2 12,Ax 3]
def zh:LSO:=[Aa 14 0,o1 15 (.bin .geq (tm 14) (.av (.int .u8 97))),Aa 16 15,.grp none 16 true
 [Ae 17 16 0,og 18 16 true (.bin .leq (tm 17) (.av (.int .u8 102)))]
 19 (tm 18),Aa 13 19]
def zg:LSO:=[Aa 20 0,o1 21 (.bin .sub (tm 20) (.av (.int .u8 97))),o1 22 (.bin .add (tm 21) (.av (.int .u8 10))),Aa 2 22,Ax 3]
def zf:LSO:=[Aa 24 0,BY 25 24,Aa 26 25,.grp none 26 true
 [Ae 27 26 0,og 28 26 true (.bin .leq (tm 27) (.av (.int .u8 70)))]
 29 (tm 28),Aa 23 29]
def ze:LSO:=[Aa 30 0,o1 31 (.bin .sub (tm 30) (.av (.int .u8 65))),o1 32 (.bin .add (tm 31) (.av (.int .u8 10))),Aa 2 32,Ax 3]
def zd:LSO:=[Ca 2,Af 3]
def rH:aW:=⟨33,(.seq (.sreg zk [])
 (.seq (.block 0 (.seq (.sreg zj Cj)
 (.cond (tm 4) (.seq (.sreg zi Cw)
 .ret)
 (.seq (.sreg zh Cj)
 (.cond (tm 13) (.seq (.sreg zg Co)
 .ret)
 (.seq (.sreg zf Cj)
 (.cond (tm 23) (.seq (.sreg ze Co)
 .ret)
 .skip)))))))
 (.seq (.sreg zd [])
 .ret))),[(.tmp 2),(.tmp 3)]⟩
attribute [push_cast] zk zj zi zh zg zf ze zd
theorem Lt:bb Tryz.prog (fun _ _=>1) 226=some rH.raw:=by kernel_rfl
def vN:LSO:=[Ao 2,Af 3]
def vM:LSO:=[Aa 10 0,Ar 11 10,o1 12 (.bin .rem (tm 11) (iv 2)),Al 13 12 1]
def vL:LSO:=[Ao 2,Af 3]
def vK:LSO:=[Aa 14 0,Ar 15 14,o1 16 (.bin .quo (tm 15) (iv 2)),o1 17 (.mkslice 1 1 [(.int .u8 0)] (iv 0) (tm 16)),Aa 4 17]
def vJ:LSO:=[Ab 5 0]
def vI:LSO:=[Aa 18 5,Aa 19 0,Ar 20 19,Ak 21 18 20]
def vH:LSO:=[Aa 25 0,Aa 26 5,A9 27 25 26,Aj 28 226 27,Aa 24 28,As 29 24,Au 30 24,Aa 6 29,Aa 7 30]
def vG:LSO:=[Aa 32 0,Aa 33 5,Ah 34 33 1,A9 35 32 34,Aj 36 226 35,Aa 31 36,As 37 31,Au 38 31,Aa 8 37,Aa 9 38]
def vF:LSO:=[Aa 39 7,Ay 40 39,Aa 41 40,.grp none 41 false
 [Ag 42 41 9,AU 43 41 42]
 44 (tm 43)]
def vE:LSO:=[Ao 2,Af 3]
def qF:LSO:=[Aa 45 4,Aa 46 6,o1 47 (.bin .shl (tm 46) (.av (.int .u64 4))),Aa 48 8,o1 49 (.bin .or (tm 47) (tm 48)),AK 50 49,AH 51 45 50,Aa 4 51]
def qE:LSO:=[Aa 22 5,Ah 23 22 2,Aa 5 23]
def qD:LSO:=[Aa 52 4,AO 53 52,Aa 2 53,Ax 3]
def mO:aW:=⟨54,(.seq (.sreg vN [])
 (.seq (.seq (.sreg vM Ci)
 (.cond (tm 13) (.seq (.sreg vL [])
 .ret)
 .skip))
 (.seq (.sreg vK Cj)
 (.seq (.seq (.sreg vJ [])
 (.block 0 (.loop (.seq (.seq (.sreg vI Ci)
 (.cond (tm 21) .skip
 (.exit 0)))
 (.seq (.block 1 (.seq (.sreg vH C3)
 (.seq (.sreg vG [true,true,false,false,false,false,false,false,false,false])
 (.seq (.seq (.sreg vF Ci)
 (.cond (tm 44) (.seq (.sreg vE [])
 .ret)
 .skip))
 (.sreg qF Cp)))))
 (.sreg qE Ch))))))
 (.seq (.sreg qD Cw)
 .ret))))),[(.tmp 2),(.tmp 3)]⟩
attribute [push_cast] vN vM vL vK vJ vI vH vG vF vE qF qE qD
theorem Ke:bb Tryz.prog (fun _ _=>1) 194=some mO.raw:=by kernel_rfl
def vo:LSO:=[Ca 2]
def vn:LSO:=[Aa 3 0,o1 4 (.bin .lss (tm 3) (.av (.int .u8 10)))]
def vm:LSO:=[Aa 5 0,o1 6 (.bin .add (.av (.int .u8 48)) (tm 5)),Aa 2 6]
def vl:LSO:=[Aa 7 0,o1 8 (.bin .add (.av (.int .u8 97)) (tm 7)),o1 9 (.bin .sub (tm 8) (.av (.int .u8 10))),Aa 2 9]
def mM:aW:=⟨10,(.seq (.sreg vo [])
 (.seq (.seq (.sreg vn Cg)
 (.cond (tm 4) (.seq (.sreg vm Ch)
 .ret)
 .skip))
 (.seq (.sreg vl Ci)
 .ret))),[(.tmp 2)]⟩
attribute [push_cast] vo vn vm vl
theorem Kb:bb Tryz.prog (fun _ _=>1) 216=some mM.raw:=by kernel_rfl
def vz:LSO:=[Ao 2,Af 3]
def vy:LSO:=[Am 4]
def vx:LSO:=[Aa 9 0,Aj 10 67 9,Aa 5 10]
def vw:LSO:=[Ab 6 0]
def vv:LSO:=[Aa 11 6,Ah 12 11 1,Aa 13 5,Ar 14 13,Ak 15 12 14]
def vu:LSO:=[Af 7]
def vt:LSO:=[Ab 8 0]
def vr:LSO:=[Aa 18 8,AB 19 18 256,Aa 20 19,.grp none 20 true
 [Ae 21 20 7,Bv 22 20 21]
 23 (tm 22)]
def vq:LSO:=[Aa 26 8,o1 27 (.bin .quo (tm 26) (iv 16)),o1 28 (.conv .u8 (tm 27)),Aj 29 216 28,Aa 30 5,Aa 31 6,A9 32 30 31,AE 33 29 32,Aa 34 33,.grp none 34 true
 [Ae 35 34 8,BC 36 34 35 16,og 37 34 true (.conv .u8 (tm 36)),AJ 38 34 216 37,Ae 39 34 5,Ae 40 34 6,BU 41 34 40 1,AS 42 34 39 41,AY 43 34 38 42]
 44 (tm 43)]
def vp:LSO:=[Aa 45 4,Aa 46 8,o1 47 (.conv .u8 (tm 46)),AK 48 47,AH 49 45 48,Aa 4 49]
def qC:LSO:=[Ax 7]
def qB:LSO:=[Aa 24 8,Ah 25 24 1,Aa 8 25]
def qA:LSO:=[Aa 50 7,Ay 51 50]
def qz:LSO:=[Ao 2,Af 3]
def qy:LSO:=[Aa 16 6,Ah 17 16 2,Aa 6 17]
def qx:LSO:=[Aa 52 0,Ar 53 52,o1 54 (.bin .rem (tm 53) (iv 2)),Al 55 54 1]
def qw:LSO:=[Ao 2,Af 3]
def qu:LSO:=[Aa 56 4,AO 57 56,Aa 2 57,Ax 3]
def mN:aW:=⟨58,(.seq (.sreg vz [])
 (.seq (.sreg vy [])
 (.seq (.sreg vx Ch)
 (.seq (.seq (.sreg vw [])
 (.block 0 (.loop (.seq (.seq (.sreg vv Cj)
 (.cond (tm 15) .skip
 (.exit 0)))
 (.seq (.block 1 (.seq (.sreg vu [])
 (.seq (.seq (.sreg vt [])
 (.block 2 (.loop (.seq (.seq (.sreg vr Ci)
 (.cond (tm 23) .skip
 (.exit 2)))
 (.seq (.block 3 (.seq (.sdreg vq [.pure,.pure,.pure,(.read 0 0),.pure,.pure,(.read 0 0),.pure,.pure,.pure,.pure,.pure,(.read 0 0),.pure,.pure,.pure,(.read 0 0)] Cx)
 (.cond (tm 44) (.seq (.sreg vp Ck)
 (.sreg qC []))
 .skip)))
 (.sreg qB Ch))))))
 (.seq (.sreg qA Cg)
 (.cond (tm 51) (.seq (.sreg qz [])
 .ret)
 .skip)))))
 (.sreg qy Ch))))))
 (.seq (.seq (.sreg qx Ci)
 (.cond (tm 55) (.seq (.sreg qw [])
 .ret)
 .skip))
 (.seq (.sreg qu Cw)
 .ret)))))),[(.tmp 2),(.tmp 3)]⟩
attribute [push_cast] vz vy vx vw vv vu vt vr vq vp qC qB qA qz qy qx qw qu
theorem Kc:bb Tryz.prog (fun _ _=>1) 181=some mN.raw:=by kernel_rfl
variable {L:List Blk} {K:AV→List Blk→Prop}
set_option maxHeartbeats 8000000
set_option maxRecDepth 100000
def jK (c:UInt8):UInt8:=if 65≤c.toNat∧c.toNat≤90 then c+32 else c
def ah (s:List UInt8):List UInt8:=s.map jK
theorem RM {c:UInt8} (h1:65≤c.toNat) (h2:c.toNat≤90):((jK c).toNat:Int)=(c.toNat:Int)+32:=by
 rw [jK,if_pos ⟨h1,h2⟩,UInt8.toNat_add]
 have:(32:UInt8).toNat=32:=rfl
 omega
theorem PE {c:UInt8} (h:¬ (65≤c.toNat∧c.toNat≤90)):jK c=c:=by rw [jK,if_neg h]
theorem fM (l:List UInt8):(u8s l).all PK=true:=by
 simp only [u8s,List.all_map,List.all_eq_true]
 intro x _
 have:=x.toNat_lt
 simp [PK]
theorem er (l:List UInt8):(u8s l).map LS=l:=by
 induction l with
 | nil=>rfl
 | cons x l ih =>
   simp only [u8s,List.map_cons,List.map_map] at ih ⊢
   rw [ih]
   simp [LS]
theorem LB (l:List UInt8) (c:UInt8):u8s (l++[c])=u8s l++[.int .u8 c.toNat]:=by simp [u8s]
theorem ML {s:List UInt8} {k:Nat} (h:k<s.length):ah (s.take (k+1))=ah (s.take k)++[jK (s.getD k 0)]:=by
 rw [List.take_succ_eq_append_getElem h,ah,List.map_append]
 simp [ah,h]
theorem bd {s:List UInt8} (hs:(s.length:Int)≤140737488351232) (h:K (.str (ah s)) L):ad Tryz.prog 67 [.str s] L K:=by
 replace h:=hid h
 refine ae Lr (by simp [rG]) ?_
 simp only [rG,ar]
 refine wk ?_
 refine ch (l:=[]) (n:=0) 3 1 rfl (Nat.zero_mul 1).symm ?_
 refine am (fun n T' L'=>∃ (k:Nat) (v:List AV),n=s.length - k∧k≤s.length∧v=u8s (ah (s.take k))∧T'=[(4,.int .i64 (k:Int)),(3,.gsl v k L.length 1),(2,.str []),(0,.str s)]∧L'=L++[.spare k 1]) (CutS (b:=by simp)) ⟨0,[],rfl,Nat.zero_le _,rfl,rfl,rfl⟩ ?_
 rintro _ _ _ ⟨k,v,rfl,hk,rfl,rfl,rfl⟩
 by_cases hlt:k<s.length
 · have h1:(k:Int)<(s.length:Int):=by omega
   have h2:IntKind.i64.wrap ((k:Int)+1)=(k:Int)+1:=ac (by omega) (by omega)
   have hsucc:=hid (ML hlt)
   have e:s.getD k 0=s.getD k 0:=rfl
   obtain ⟨c,hc⟩:∃ c,s.getD k 0=c:=⟨_,rfl⟩
   rw [hc] at hsucc
   have hc255:=c.toNat_lt
   by_cases hu:65≤c.toNat∧c.toNat≤90
   · have u1:(65:Int)≤(c.toNat:Int):=by omega
     have u2:(c.toNat:Int)≤90:=by omega
     have u3:=hid (RM hu.1 hu.2)
     have u4:IntKind.u8.wrap ((c.toNat:Int) - 65)=(c.toNat:Int) - 65:=cc (by omega) (by omega)
     have u5:IntKind.u8.wrap ((c.toNat:Int) - 65+97)=(c.toNat:Int) - 65+97:=cc (by omega) (by omega)
     clear hu
     refine wk ?_
     refine ak _ _ _ (by omega) (CutS (b:=by simp)) ⟨k+1,_,rfl,hlt,?_,rfl,rfl⟩
     rw [hsucc.out,LB,u3.out]
     simp only [show (c.toNat:Int) - 65+97=c.toNat+32 by omega]
   · have u3:=hid (PE hu)
     have u4:¬ ((65:Int)≤(c.toNat:Int)∧(c.toNat:Int)≤90):=by omega
     have u5:(decide ((65:Int)≤(c.toNat:Int)) && decide ((c.toNat:Int)≤90))=false:=by simp;omega
     clear hu
     repeat' first
       | refine a8 ?_
       | (first|refine aP (by kernel_rfl) ?_|refine aB (by kernel_rfl) ?_|refine aC ?_|refine bj ?_|refine aX (fun _=>?_)|refine ay ?_|refine aS ?_)
         refine sm ?_
       | (first|refine aL (by kernel_rfl) ?_|refine aQ ?_|refine aR ?_|refine ba (ax ?_))
         refine sl ?_
       | exact aY
       | first|apply aZ|apply aM|apply a6|apply aN|apply a7|apply aO
       | refine aF ?_
       | first|refine aD rfl ?_|refine aE rfl ?_|refine ap rfl ?_ ?_|refine aH rfl (fun _=>?_) (fun _=>?_)|refine aG rfl (fun _=>?_) (fun _=>?_)
       | ((first|refine ao (fun _=>?_) (fun _=>?_)|refine aw (fun _=>?_) (fun _=>?_))<;>try refine sm ?_)
       | refine And.intro trivial ?_
       | refine And.intro (by omega) ?_
       | refine aI rfl (fun _=>?_) (fun _=>?_)
       | refine And.intro ?_ ?_
     all_goals first
       | omega
       | (refine ak _ _ _ (by omega) (CutS (b := by simp)) ⟨k + 1, _, rfl, hlt, ?_, rfl, rfl⟩
          rw [hsucc.out,LB,u3.out])
 · have hke:k=s.length:=by omega
   subst hke
   have h1:¬ (s.length:Int)<(s.length:Int):=by omega
   have e1:=fM (ah s)
   have e2:=er (ah s)
   have e3:s.take s.length=s:=List.take_length
   refine wk ?_
   exact ab rfl h.out
theorem mu {s:List UInt8} (hs:(s.length:Int)≤140737488351232) (h:K (.str (ah s)) L):ad Tryz.prog 61 [.str s] L K:=by
 replace h:=hid h
 refine ae Lv (by simp [rJ]) ?_
 simp only [rJ,ar]
 refine wk ?_
 refine am (fun n T' L'=>∃ (k:Nat) (v:List AV),n=s.length - k∧k≤s.length∧v=u8s (ah (s.take k)++s.drop k)∧T'=[(10,.int .i64 (k:Int)),(9,.int .i64 s.length),(8,.lsl L.length 0 s.length none 1),(3,.lsl L.length 0 s.length none 1),(2,.str [])]∧L'=L++[.bytes v]) (CutS (b:=by simp)) ⟨0,_,rfl,Nat.zero_le _,rfl,rfl,rfl⟩ ?_
 rintro _ _ _ ⟨k,v,rfl,hk,hv,rfl,rfl⟩
 by_cases hlt:k<s.length
 · have h1:(k:Int)<(s.length:Int):=by omega
   have h2:IntKind.i64.wrap ((k:Int)+1)=(k:Int)+1:=ac (by omega) (by omega)
   obtain ⟨c,hc⟩:∃ c,s.getD k 0=c:=⟨_,rfl⟩
   have hd:s.drop k=c::s.drop (k+1):=by
     rw [List.drop_eq_getElem_cons hlt,← hc,List.getD_eq_getElem?_getD,List.getElem?_eq_getElem hlt];rfl
   have hlk:(ah (s.take k)).length=k:=by simp [ah];omega
   have hv1:v=u8s (ah (s.take k)) ++ .int .u8 c.toNat::u8s (s.drop (k+1)):=by rw [hv,hd];simp [u8s]
   have hl2:(u8s (ah (s.take k))).length=k:=by simp [u8s,hlk]
   have hvl:v.length=s.length:=by rw [hv];simp [u8s,ah];omega
   have hvk:k<v.length:=by omega
   have hvg:v.getD k .undef=.int .u8 c.toNat:=by rw [hv1];simp [List.getD_eq_getElem?_getD,List.getElem?_append_right,hl2]
   have hsucc:=ML hlt
   rw [hc] at hsucc
   have hnew:u8s (ah (s.take (k+1))++s.drop (k+1))=u8s (ah (s.take k)) ++ .int .u8 (jK c).toNat::u8s (s.drop (k+1)):=by rw [hsucc];simp [u8s]
   have hspl:∀ x,v.take k++x::v.drop (k+1)=u8s (ah (s.take k))++x::u8s (s.drop (k+1)):=fun x=>by
     rw [hv1,List.take_left' hl2,List.drop_append,hl2,List.drop_eq_nil_of_le (by omega),show k+1 - k=1 by omega];rfl
   clear hv hd hlk hsucc
   replace hv1:=hid hv1
   replace hnew:=hid hnew
   replace hspl:=hid hspl
   have hc255:=c.toNat_lt
   by_cases hu:65≤c.toNat∧c.toNat≤90
   · have u1:(65:Int)≤(c.toNat:Int):=by omega
     have u2:(c.toNat:Int)≤90:=by omega
     have u3:=hid (RM hu.1 hu.2)
     have u4:IntKind.u8.wrap ((c.toNat:Int)+32)=(c.toNat:Int)+32:=cc (by omega) (by omega)
     clear hu
     refine wk ?_
     refine ak _ _ _ (by omega) (CutS (b:=by simp)) ⟨k+1,_,rfl,hlt,?_,rfl,rfl⟩
     rw [hnew.out,u3.out]
     exact hspl.out _
   · have u3:=hid (PE hu)
     have u5:(decide ((65:Int)≤(c.toNat:Int)) && decide ((c.toNat:Int)≤90))=false:=by simp;omega
     clear hu
     repeat' first
       | refine a8 ?_
       | (first|refine aP (by kernel_rfl) ?_|refine aB (by kernel_rfl) ?_|refine aC ?_|refine bj ?_|refine aX (fun _=>?_)|refine ay ?_|refine aS ?_)
         refine sm ?_
       | (first|refine aL (by kernel_rfl) ?_|refine aQ ?_|refine aR ?_|refine ba (ax ?_))
         refine sl ?_
       | exact aY
       | first|apply aZ|apply aM|apply a6|apply aN|apply a7|apply aO
       | refine aF ?_
       | first|refine aD rfl ?_|refine aE rfl ?_|refine ap rfl ?_ ?_|refine aH rfl (fun _=>?_) (fun _=>?_)|refine aG rfl (fun _=>?_) (fun _=>?_)
       | ((first|refine ao (fun _=>?_) (fun _=>?_)|refine aw (fun _=>?_) (fun _=>?_))<;>try refine sm ?_)
       | refine And.intro trivial ?_
       | refine And.intro (by omega) ?_
       | refine aI rfl (fun _=>?_) (fun _=>?_)
       | refine And.intro ?_ ?_
     all_goals first
       | omega
       | (refine ak _ _ _ (by omega) (CutS (b := by simp)) ⟨k + 1, _, rfl, hlt, ?_, rfl, rfl⟩
          rw [hnew.out,u3.out]
          exact hv1.out)
 · have hke:k=s.length:=by omega
   subst hke
   have h1:¬ (s.length:Int)<(s.length:Int):=by omega
   have hv1:v=u8s (ah s):=by rw [hv];simp
   clear hv
   subst hv1
   have e1:=fM (ah s)
   have e2:=er (ah s)
   have e4:(u8s (ah s)).length=s.length:=by simp [u8s,ah]
   have e5:(u8s (ah s)).take s.length=u8s (ah s):=by rw [← e4];exact List.take_length
   refine wk ?_
   exact ab rfl h.out
theorem jr {s:List UInt8} (hs:(s.length:Int)≤100000) (h:K (.str (ah s)) L):ad Tryz.prog 67 [.str s] L K:=bd (by omega) h
theorem CT {s:List UInt8} (hs:(s.length:Int)≤100000) (h:K (.str (ah s)) L):ad Tryz.prog 61 [.str s] L K:=mu (by omega) h
def iq (c:UInt8):Option Nat:=if 48≤c.toNat∧c.toNat≤57 then some (c.toNat - 48) else if 97≤c.toNat∧c.toNat≤102 then some (c.toNat - 87) else if 65≤c.toNat∧c.toNat≤70 then some (c.toNat - 55) else none
theorem Dz {c:UInt8} {x:Nat} (h:iq c=some x):x<16:=by
 unfold iq at h
 split at h
 · cases h;omega
 · split at h
   · cases h;omega
   · split at h
     · cases h;omega
     · cases h
theorem QX {c:UInt8} {L:List Blk} {K:AV→List Blk→Prop} (h:K (.tup [.int .u8 ((iq c).getD 0:Nat),.bool (iq c).isSome]) L):ad Tryz.prog 226 [.int .u8 c.toNat] L K:=by
 have hc:=c.toNat_lt
 obtain ⟨n,hn⟩:∃ n,c.toNat=n:=⟨_,rfl⟩
 unfold iq at h
 rw [hn] at h hc ⊢
 clear hn
 refine ae Lt (by simp [rH]) ?_
 simp only [rH,ar]
 by_cases h1:48≤n∧n≤57
 · rw [if_pos h1] at h
   replace h:=hid h
   obtain ⟨a1,a2⟩:=h1
   have b1:(48:Int)≤(n:Int):=by omega
   have b2:(n:Int)≤57:=by omega
   have b3:IntKind.u8.wrap ((n:Int) - 48)=(n:Int) - 48:=cc (by omega) (by omega)
   clear a1 a2
   refine wk ?_
   refine aa ?_
   have:=h.out
   simpa [show ((n - 48:Nat):Int)=(n:Int) - 48 by omega] using this
 · rw [if_neg h1] at h
   have c1:(decide ((48:Int)≤(n:Int)) && decide ((n:Int)≤57))=false:=by simp;omega
   by_cases h2:97≤n∧n≤102
   · rw [if_pos h2] at h
     replace h:=hid h
     obtain ⟨a1,a2⟩:=h2
     have b1:(97:Int)≤(n:Int):=by omega
     have b2:(n:Int)≤102:=by omega
     have b4:IntKind.u8.wrap ((n:Int) - 97)=(n:Int) - 97:=cc (by omega) (by omega)
     have b5:IntKind.u8.wrap ((n:Int) - 97+10)=(n:Int) - 97+10:=cc (by omega) (by omega)
     clear a1 a2 h1
     refine wk ?_
     refine aa ?_
     have:=h.out
     simpa [show ((n - 87:Nat):Int)=(n:Int) - 97+10 by omega] using this
   · rw [if_neg h2] at h
     have c2:(decide ((97:Int)≤(n:Int)) && decide ((n:Int)≤102))=false:=by simp;omega
     by_cases h3:65≤n∧n≤70
     · rw [if_pos h3] at h
       replace h:=hid h
       obtain ⟨a1,a2⟩:=h3
       have b1:(65:Int)≤(n:Int):=by omega
       have b2:(n:Int)≤70:=by omega
       have b4:IntKind.u8.wrap ((n:Int) - 65)=(n:Int) - 65:=cc (by omega) (by omega)
       have b5:IntKind.u8.wrap ((n:Int) - 65+10)=(n:Int) - 65+10:=cc (by omega) (by omega)
       clear a1 a2 h1 h2
       refine wk ?_
       refine aa ?_
       have:=h.out
       simpa [show ((n - 55:Nat):Int)=(n:Int) - 65+10 by omega] using this
     · rw [if_neg h3] at h
       have c3:(decide ((65:Int)≤(n:Int)) && decide ((n:Int)≤70))=false:=by simp;omega
       replace h:=hid h
       clear h1 h2 h3
       repeat' first
         | refine a8 ?_
         | (first|refine aP (by kernel_rfl) ?_|refine aB (by kernel_rfl) ?_|refine aC ?_|refine bj ?_|refine aX (fun _=>?_)|refine ay ?_|refine aS ?_)
           refine sm ?_
         | (first|refine aL (by kernel_rfl) ?_|refine aQ ?_|refine aR ?_|refine ba (ax ?_))
           refine sl ?_
         | exact aY
         | first|apply aZ|apply aM|apply a6|apply aN|apply a7|apply aO
         | refine aF ?_
         | first|refine aD rfl ?_|refine aE rfl ?_|refine ap rfl ?_ ?_|refine aH rfl (fun _=>?_) (fun _=>?_)|refine aG rfl (fun _=>?_) (fun _=>?_)
         | ((first|refine ao (fun _=>?_) (fun _=>?_)|refine aw (fun _=>?_) (fun _=>?_))<;>try refine sm ?_)
         | refine And.intro trivial ?_
         | refine And.intro (by omega) ?_
         | refine aI rfl (fun _=>?_) (fun _=>?_)
         | refine And.intro ?_ ?_
       all_goals first
         | omega
         | (refine aa ?_;simpa using h.out)
def Ju (a b:UInt8):Option UInt8:=match iq a,iq b with
 | some x,some y=>some (UInt8.ofNat (16 * x+y))
 | _,_=>none
def G4 (a b:UInt8):AV:=match Ju a b with
 | some c=>.tup [.str [c],.bool true]
 | none=>.tup [.str [],.bool false]
theorem W3:∀ x y:_root_.Fin 16,IntKind.u8.wrap (((BitVec.ofInt IntKind.u8.bits (IntKind.u8.wrap ((x.val:Int) * 2 ^ min 4 IntKind.u8.bits)) ||| BitVec.ofInt IntKind.u8.bits (y.val:Int)).toNat:Nat):Int)=16 * (x.val:Int)+(y.val:Int):=by decide +kernel
theorem Tw {a b:UInt8} (h:K (G4 a b) L):ad Tryz.prog 194 [.str [a,b]] L K:=by
 have hl:[a,b].length=2:=rfl
 have ha:[a,b].getD 0 0=a:=rfl
 have hb:[a,b].getD 1 0=b:=rfl
 have d1:IntKind.i64.wrap (Int.tdiv 2 2)=1:=by decide
 have d2:Int.tmod 2 2=0:=by decide
 have d3:dl [AV.int IntKind.u8 0] 1=[AV.int IntKind.u8 0]:=rfl
 have d4:IntKind.i64.wrap 1=1:=by decide
 have d5:IntKind.i64.wrap 2=2:=by decide
 replace h:=hid h
 refine ae Ke (by simp [mO]) ?_
 simp only [mO,ar]
 refine wk ?_
 refine am (fun n T' L'=>(n=1∧T'=[(5,.int .i64 0),(4,.lsl L.length 0 0 (some 1) 1),(0,.str [a,b])]∧L'=L++[.cells [.int .u8 0]])∨(n=0∧∃ x y:Nat,Hid (iq a=some x)∧Hid (iq b=some y)∧T'=[(5,.int .i64 2),(4,.lsl (L.length+1) 0 1 none 1),(0,.str [a,b])]∧L'=L++[.dead,.cells [.int .u8 ((16 * x+y:Nat):Int)]])) (n0:=1) (T0:=[(5,.int .i64 0),(4,.lsl L.length 0 0 (some 1) 1),(0,.str [a,b])]) (L0:=L++[.cells [.int .u8 0]]) (CutS (b:=by simp)) (.inl ⟨rfl,rfl,rfl⟩) ?_
 rintro _ _ _ (⟨rfl,rfl,rfl⟩|⟨rfl,x,y,hx,hy,rfl,rfl⟩)
 · rcases hx:iq a with _|x
   · have h':=h.out
     simp only [G4,Ju,hx] at h'
     replace h':=hid h'
     have e1:(iq a).getD 0=0:=by rw [hx];rfl
     have e2:(iq a).isSome=false:=by rw [hx];rfl
     clear hx
     have kk1:=@hid _ @QX
     refine wk ?_
     exact ab rfl h'.out
   · have e1:(iq a).getD 0=x:=by rw [hx];rfl
     have e2:(iq a).isSome=true:=by rw [hx];rfl
     have hx':=hid hx
     rcases hy:iq b with _|y
     · have h':=h.out
       simp only [G4,Ju,hx,hy] at h'
       replace h':=hid h'
       have e3:(iq b).getD 0=0:=by rw [hy];rfl
       have e4:(iq b).isSome=false:=by rw [hy];rfl
       clear hx hy
       have kk1:=@hid _ @QX
       refine wk ?_
       exact ab rfl h'.out
     · have e3:(iq b).getD 0=y:=by rw [hy];rfl
       have e4:(iq b).isSome=true:=by rw [hy];rfl
       have hy':=hid hy
       have e5:=W3 ⟨x,Dz hx⟩ ⟨y,Dz hy⟩
       simp only at e5
       clear hx hy
       have kk1:=@hid _ @QX
       refine wk ?_
       refine ak 0 _ _ (by omega) (CutL (b:=by simp)) (.inr ⟨rfl,x,y,hid rfl,hid rfl,rfl,?_⟩)
       first|rfl|rw [e5]
 · have h':=h.out
   simp only [G4,Ju,hx.out,hy.out] at h'
   replace h':=hid h'
   have lx:=Dz hx.out
   have ly:=Dz hy.out
   have u1:PK (.int .u8 (16 * (x:Int)+(y:Int)))=true:=rfl
   have u2:LS (.int .u8 (16 * (x:Int)+(y:Int)))=UInt8.ofNat (16 * x+y):=by
     simp only [LS]
     rw [show (16 * (x:Int)+(y:Int)).toNat=16 * x+y by omega]
   refine wk ?_
   exact ab rfl h'.out
def K0 (b:List UInt8):Bool:=b.isEmpty || b.getLast? == some 32
def cZ (b:List UInt8) (c:UInt8):List UInt8:=if c=32∧K0 b=true then b else b++[c]
def ik (s:List UInt8):List UInt8:=s.foldl cZ []
def rS (b:List UInt8):List UInt8:=if b.getLast?=some 32 then b.dropLast else b
def dt (s:List UInt8):List UInt8:=rS (ik (ah s))
theorem Je (b:List UInt8) (c:UInt8):(cZ b c).length≤b.length+1:=by
 unfold cZ;split<;>simp
theorem rg {s:List UInt8} {k:Nat} (h:k<s.length):ik (s.take (k+1))=cZ (ik (s.take k)) (s.getD k 0):=by
 rw [List.take_succ_eq_append_getElem h,ik,List.foldl_append]
 simp [ik,h]
theorem qO (s:List UInt8):∀ k,(ik (s.take k)).length≤k
 | 0=>by simp [ik]
 | k+1=>by
   have ih:=qO s k
   by_cases h:k<s.length
   · rw [rg h]
     have:=Je (ik (s.take k)) (s.getD k 0)
     omega
   · rw [List.take_of_length_le (by omega),← List.take_of_length_le (l:=s) (i:=k) (by omega)];omega
theorem rf {s:List UInt8} (hs:(s.length:Int)≤100000) (h:K (.str (dt s)) L):ad Tryz.prog 80 [.str s] L K:=by
 replace h:=hid h
 refine ae Lu (by simp [rI]) ?_
 simp only [rI,ar]
 obtain ⟨t,ht⟩:∃ t,ah s=t:=⟨_,rfl⟩
 have htl:(t.length:Int)≤100000:=by rw [← ht];simpa [ah] using hs
 have kk1:=@hid _ (fun L K=>CT hs (L:=L) (K:=K))
 refine wk ?_
 refine ch (l:=[]) (n:=0) 3 1 rfl (Nat.zero_mul 1).symm ?_
 refine am (fun n T' L'=>∃ (k:Nat) (b:List UInt8) (v:List AV) (m:Nat),n=t.length - k∧k≤t.length∧b=ik (t.take k)∧v=u8s b∧m=b.length∧T'=[(10,.int .i64 (k:Int)),(9,.int .i64 t.length),(8,.sl (u8s t) t.length none),(3,.gsl v m L.length 1),(2,.str [])]∧L'=L++[.spare m 1]) (CutS (b:=by simp)) ⟨0,[],[],0,rfl,Nat.zero_le _,rfl,rfl,rfl,rfl,rfl⟩ ?_
 rintro _ _ _ ⟨k,b,v,m,rfl,hk,hb,rfl,rfl,rfl,rfl⟩
 replace hb:=hid hb
 by_cases hlt:k<t.length
 · have h1:(k:Int)<(t.length:Int):=by omega
   have h2:IntKind.i64.wrap ((k:Int)+1)=(k:Int)+1:=ac (by omega) (by omega)
   have hsucc:=hid (rg hlt)
   obtain ⟨c,hc⟩:∃ c,t.getD k 0=c:=⟨_,rfl⟩
   have hg:(u8s t).getD k .undef=.int .u8 c.toNat:=by simp [u8s,hlt,← hc]
   have hlk:k<(u8s t).length:=by simpa [u8s] using hlt
   rw [hc] at hsucc
   have hbl:b.length≤k:=by rw [hb.out];exact qO t k
   have hstep:∀ b',b'=cZ b c→b'=ik (t.take (k+1)):=fun b' e=>by rw [hsucc.out,← hb.out];exact e
   have c32:((c.toNat:Int)=32)↔c=32:=⟨fun e=>UInt8.toNat_inj.1 (by have:(32:UInt8).toNat=32:=rfl;omega),fun e=>by rw [e];rfl⟩
   replace hstep:=hid hstep
   replace c32:=hid c32
   clear hsucc hb hc
   have hub:(u8s b).length=b.length:=by simp [u8s]
   have rest:∀ b',b'=cZ b c→b'.length≤b.length+1:=fun b' e=>by rw [e];exact Je b c
   clear rest
   by_cases hc:(c.toNat:Int)=32
   · rcases List.eq_nil_or_concat b with hb0|⟨d,x,hb0⟩
     · have e0:(b.length:Int)=0:=by rw [hb0];rfl
       have e1:=hid (hstep.out b (by rw [cZ,if_pos ⟨c32.out.1 hc,by rw [hb0];rfl⟩]))
       clear hb0
       refine wk ?_
       exact ak _ _ _ (by omega) (CutS (b:=by simp)) ⟨k+1,b,_,_,rfl,hlt,e1.out,rfl,rfl,rfl,rfl⟩
     · have e0:¬ (b.length:Int)=0:=by rw [hb0];simp;omega
       have e1:IntKind.i64.wrap ((b.length:Int) - 1)=(d.length:Int):=by rw [ac (by omega) (by omega),hb0];simp
       have e2:(u8s b).getD d.length .undef=.int .u8 x.toNat:=by rw [hb0];simp [u8s,List.getD_eq_getElem?_getD]
       have e3:d.length<(u8s b).length:=by rw [hb0];simp [u8s]
       have e4:(d.length:Int)<(b.length:Int):=by rw [hb0];simp;omega
       have x32:x=32↔(x.toNat:Int)=32:=⟨fun e=>by rw [e];rfl,fun e=>UInt8.toNat_inj.1 (by have:(32:UInt8).toNat=32:=rfl;omega)⟩
       have hend:K0 b=true↔x=32:=by rw [hb0];simp [K0]
       replace hb0:=hid hb0
       replace x32:=hid x32
       replace hend:=hid hend
       by_cases hx:(x.toNat:Int)=32
       · have e5:=hid (hstep.out b (by rw [cZ,if_pos ⟨c32.out.1 hc,hend.out.2 (x32.out.2 hx)⟩]))
         refine wk ?_
         exact ak _ _ _ (by omega) (CutS (b:=by simp)) ⟨k+1,b,_,_,rfl,hlt,e5.out,rfl,rfl,rfl,rfl⟩
       · have e5:=hid (hstep.out (b++[c]) (by rw [cZ,if_neg fun e=>hx (x32.out.1 (hend.out.1 e.2))]))
         refine wk ?_
         exact ak _ _ _ (by omega) (CutS (b:=by simp)) ⟨k+1,b++[c],_,_,rfl,hlt,e5.out,(by rw [LB,hc]),(by simp),rfl,rfl⟩
   · have e1:=hid (hstep.out (b++[c]) (by rw [cZ,if_neg fun e=>hc (c32.out.2 e.1)]))
     refine wk ?_
     exact ak _ _ _ (by omega) (CutS (b:=by simp)) ⟨k+1,b++[c],_,_,rfl,hlt,e1.out,(LB b c).symm,(by simp),rfl,rfl⟩
 · have hke:k=t.length:=by omega
   subst hke
   have h1:¬ (t.length:Int)<(t.length:Int):=by omega
   have hbl:b.length≤t.length:=by rw [hb.out];exact qO t _
   have hub:(u8s b).length=b.length:=by simp [u8s]
   have hfin:rS b=dt s:=by rw [dt,ht,hb.out,List.take_length]
   have e1:=fM b
   have e2:=er b
   replace hb:=hid hfin
   clear hfin
   rcases List.eq_nil_or_concat b with hb0|⟨d,x,hb0⟩
   · have e0:¬ (0:Int)<(b.length:Int):=by rw [hb0];simp
     have e3:=hid (show b=dt s by rw [← hb.out,hb0];rfl)
     clear hb0
     refine wk ?_
     refine ab rfl ?_
     rw [e3.out];exact h.out
   · have e0:(0:Int)<(b.length:Int):=by rw [hb0];simp;try omega
     have e3:IntKind.i64.wrap ((b.length:Int) - 1)=(d.length:Int):=by rw [ac (by omega) (by omega),hb0];simp
     have e4:(u8s b).getD d.length .undef=.int .u8 x.toNat:=by rw [hb0];simp [u8s,List.getD_eq_getElem?_getD]
     have e5:d.length<(u8s b).length:=by rw [hb0];simp [u8s]
     have e6:(d.length:Int)<(b.length:Int):=by rw [hb0];simp;omega
     have e7:(u8s b).take d.length=u8s d:=by rw [hb0];simp [u8s]
     have e10:(u8s d).length=d.length:=by simp [u8s]
     have e8:=fM d
     have e9:=er d
     have x32:x=32↔(x.toNat:Int)=32:=⟨fun e=>by rw [e];rfl,fun e=>UInt8.toNat_inj.1 (by have:(32:UInt8).toNat=32:=rfl;omega)⟩
     have htr:rS b=if x=32 then d else b:=by rw [hb0];simp [rS]
     replace hb0:=hid hb0
     replace htr:=hid htr
     by_cases hx:(x.toNat:Int)=32
     · have r:=hid (show d=dt s by rw [← hb.out,htr.out,if_pos (x32.2 hx)])
       replace x32:=hid x32
       refine wk ?_
       refine ab rfl ?_
       rw [r.out];exact h.out
     · have r:=hid (show b=dt s by rw [← hb.out,htr.out,if_neg fun e=>hx (x32.1 e)])
       replace x32:=hid x32
       refine wk ?_
       refine ab rfl ?_
       rw [r.out];exact h.out
end Go.Proofs.YtkkgmgmgcgiffaaGreatDoor.Av
