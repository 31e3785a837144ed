/- Joined texts of the walk, made small by a program. -/
import Derived.Test.YtobihfefmlgaoaaGreatRk4
import Derived.Test.YtobihfefmlgaoaaGreatRows
import Derived.KernelRfl
import Derived.Test.YtobihfefmlgaoaaGreatRk5
set_option linter.unusedSimpArgs false
set_option linter.unusedVariables false
set_option maxRecDepth 100000
namespace Go.Proofs.YtobihfefmlgaoaaGreat.Av
open Go
def J7:LSO:=[Ao 2]
def J6:LSO:=[Aa 6 0,o1 7 (.s2bO (tm 6)),Aa 3 7]
def J5:LSO:=[Aa 8 3,Ae 9 8,Ac 10 0]
def J4:LSO:=[Ak 11 10 9]
def J3:LSO:=[Aa 12 10,Al 13 1 8 10,Ab 14 1 13,Aa 4 12,Aa 5 14]
def J2:LSO:=[Aa 15 5,Ck 16 15,Aa 17 16,.grp none 17 true
 [Ai 18 17 5,og 19 17 true (.bin .leq (tm 18) (.av (.int .u8 90)))]
 20 (tm 19)]
def J1:LSO:=[Aa 21 3,Aa 22 4,Aa 23 5,o1 24 (.bin .add (tm 23) (.av (.int .u8 32))),Al 25 1 21 22,Af 1 25 24]
def J0:LSO:=[Ah 26 10 1,Aa 10 26]
def JZ:LSO:=[Aa 27 3,AN 28 27,Aa 2 28]
def zq:aS:=⟨29,(.seq (.sreg J7 [])
 (.seq (.sreg J6 Cq)
 (.seq (.seq (.sreg J5 [])
 (.block 0 (.loop (.seq (.sreg J4 [])
 (.seq (.cond (tm 11) .skip
 (.exit 0))
 (.seq (.block 1 (.seq (.sreg J3 Cz)
 (.seq (.sreg J2 Cr)
 (.cond (tm 20) (.sreg J1 [false,false,false,false,false])
 .skip))))
 (.sreg J0 Cp)))))))
 (.seq (.sreg JZ Cq)
 .ret)))),[(.tmp 2)]⟩
attribute [push_cast] J7 J6 J5 J4 J3 J2 J1 J0 JZ
theorem SO:aT Tryz.prog (fun r i=>if r=1/\i=1 then 2 else 1) 94=some zq.raw:=by kernel_rfl
def JY:LSO:=[Ao 2]
def JX:LSO:=[Ap 3]
def JW:LSO:=[Aa 6 0,Aj 7 94 6,o1 8 (.s2b (tm 7)),Ae 9 8,Ac 10 0]
def JV:LSO:=[Ak 11 10 9]
def JU:LSO:=[Al 12 1 8 10,Ab 13 1 12,Aa 5 13]
def JT:LSO:=[Aa 14 5,o1 15 (.bin .eql (tm 14) (.av (.int .u8 32))),Aa 16 15,.grp none 16 true
 [Ai 17 16 3,AU 18 16 17,Bd 19 16 18 0,Ai 20 16 19,.grp (some (16,true)) 20 false
 [Ag 21 20 3,Ag 22 20 3,AH 23 20 22,Ci 24 20 23 1,BT 25 20 1 21 24,A1 26 20 1 25,Cl 27 20 26]
 28 (tm 27)]
 29 (tm 28)]
def JS:LSO:=[Aa 30 3,Aa 31 5,AE 32 31,A9 33 30 32,Aa 3 33]
def JR:LSO:=[Ah 34 10 1,Aa 10 34]
def JQ:LSO:=[Aa 35 3,Ae 36 35,A6 37 36 0,Aa 38 37,.grp none 38 true
 [Ai 39 38 3,Ai 40 38 3,AU 41 38 40,BB 42 38 41 1,Bn 43 38 1 39 42,A4 44 38 1 43,BD 45 38 44]
 46 (tm 45)]
def JP:LSO:=[Aa 47 3,Aa 48 3,Ae 49 48,AX 50 49 1,Cf 51 47 50,Aa 3 51]
def Gm:LSO:=[Aa 52 3,AN 53 52,Aa 2 53]
def zp:aS:=⟨54,(.seq (.sreg JY [])
 (.seq (.sreg JX [])
 (.seq (.seq (.sreg JW CN)
 (.block 0 (.loop (.seq (.sreg JV [])
 (.seq (.cond (tm 11) .skip
 (.exit 0))
 (.seq (.block 1 (.seq (.sreg JU Cq)
 (.seq (.seq (.sreg JT Cr)
 (.cond (tm 29) (.exit 1)
 .skip))
 (.sreg JS Cs))))
 (.sreg JR Cp)))))))
 (.seq (.seq (.sreg JQ Cs)
 (.cond (tm 46) (.sreg JP Ct)
 .skip))
 (.seq (.sreg Gm Cq)
 .ret))))),[(.tmp 2)]⟩
attribute [push_cast] JY JX JW JV JU JT JS JR JQ JP Gm
theorem SN:aT Tryz.prog (fun _ _=>1) 95=some zp.raw:=by kernel_rfl
def JF:LSO:=[Ao 2]
def JE:LSO:=[Ap 3]
def JD:LSO:=[Ac 4 0]
def JC:LSO:=[Aa 6 4,Aa 7 0,A2 8 7,Ak 9 6 8]
def JB:LSO:=[Aa 12 0,Aa 13 4,AI 14 12 13,Aa 5 14]
def JA:LSO:=[Aa 15 5,Ck 16 15,Aa 17 16,.grp none 17 true
 [Ai 18 17 5,og 19 17 true (.bin .leq (tm 18) (.av (.int .u8 90)))]
 20 (tm 19)]
def Jz:LSO:=[Aa 21 5,o1 22 (.bin .sub (tm 21) (.av (.int .u8 65))),o1 23 (.bin .add (tm 22) (.av (.int .u8 97))),Aa 5 23]
def Jy:LSO:=[Aa 24 3,Aa 25 5,AE 26 25,A9 27 24 26,Aa 3 27]
def Jx:LSO:=[Aa 10 4,Ah 11 10 1,Aa 4 11]
def Jw:LSO:=[Aa 28 3,AN 29 28,Aa 2 29]
def zn:aS:=⟨30,(.seq (.sreg JF [])
 (.seq (.sreg JE [])
 (.seq (.seq (.sreg JD [])
 (.block 0 (.loop (.seq (.seq (.sreg JC Cr)
 (.cond (tm 9) .skip
 (.exit 0)))
 (.seq (.block 1 (.seq (.sreg JB Cr)
 (.seq (.seq (.sreg JA Cr)
 (.cond (tm 20) (.sreg Jz Cr)
 .skip))
 (.sreg Jy Cs))))
 (.sreg Jx Cq))))))
 (.seq (.sreg Jw Cq)
 .ret)))),[(.tmp 2)]⟩
attribute [push_cast] JF JE JD JC JB JA Jz Jy Jx Jw
theorem SJ:aT Tryz.prog (fun _ _=>1) 101=some zn.raw:=by kernel_rfl
def Jv:LSO:=[Ao 2]
def Ju:LSO:=[Aa 8 0,Aj 9 101 8,Aa 3 9]
def Jt:LSO:=[Ap 4]
def Js:LSO:=[Ac 5 0]
def Jr:LSO:=[Aa 10 5,Aa 11 3,A2 12 11,Ak 13 10 12]
def Jq:LSO:=[An 6]
def Jp:LSO:=[Aa 16 5,Aa 7 16]
def Jo:LSO:=[Aa 17 7,Aa 18 3,A2 19 18,Ak 20 17 19,Aa 21 20,.grp none 21 true
 [Ai 22 21 6,og 23 21 true (.un .not (tm 22))]
 24 (tm 23)]
def Jn:LSO:=[Aa 27 3,Aa 28 7,AI 29 27 28,o1 30 (.bin .neq (tm 29) (.av (.int .u8 32))),Aa 6 30]
def Jm:LSO:=[Aa 25 7,Ah 26 25 1,Aa 7 26]
def Fv:LSO:=[Aa 31 6,AA 32 31,Aa 33 32,.grp none 33 false
 [Ag 34 33 3,Ag 35 33 5,BK 36 33 34 35,Cl 37 33 36,Ag 38 33 37,.grp (some (33,false)) 38 true
 [Ai 39 38 4,AU 40 38 39,Bd 41 38 40 0,Ai 42 38 41,.grp (some (38,true)) 42 false
 [Ag 43 42 3,Ag 44 42 5,Ci 45 42 44 1,BK 46 42 43 45,Cl 47 42 46]
 48 (tm 47)]
 49 (tm 48)]
 50 (tm 49)]
def Fu:LSO:=[Aa 51 4,Aa 52 3,Aa 53 5,AI 54 52 53,AE 55 54,A9 56 51 55,Aa 4 56]
def Ft:LSO:=[Aa 14 5,Ah 15 14 1,Aa 5 15]
def Fs:LSO:=[Aa 57 4,AN 58 57,Aa 2 58]
def zm:aS:=⟨59,(.seq (.sreg Jv [])
 (.seq (.sreg Ju Cq)
 (.seq (.sreg Jt [])
 (.seq (.seq (.sreg Js [])
 (.block 0 (.loop (.seq (.seq (.sreg Jr Cr)
 (.cond (tm 13) .skip
 (.exit 0)))
 (.seq (.block 1 (.seq (.sreg Jq [])
 (.seq (.seq (.sreg Jp Cp)
 (.block 2 (.loop (.seq (.seq (.sreg Jo Ct)
 (.cond (tm 24) .skip
 (.exit 2)))
 (.seq (.block 3 (.sreg Jn Cs))
 (.sreg Jm Cq))))))
 (.seq (.seq (.sreg Fv Cr)
 (.cond (tm 50) (.exit 1)
 .skip))
 (.sreg Fu Cu)))))
 (.sreg Ft Cq))))))
 (.seq (.sreg Fs Cq)
 .ret))))),[(.tmp 2)]⟩
attribute [push_cast] Jv Ju Jt Js Jr Jq Jp Jo Jn Jm Fv Fu Ft Fs
theorem SI:aT Tryz.prog (fun _ _=>1) 118=some zm.raw:=by kernel_rfl
def JN:LSO:=[Cm 2,An 3]
def JM:LSO:=[Aa 5 0,o1 6 (.bin .geq (tm 5) (.av (.int .u8 48))),Aa 7 6,.grp none 7 true
 [Ai 8 7 0,og 9 7 true (.bin .leq (tm 8) (.av (.int .u8 57)))]
 10 (tm 9),Aa 4 10]
def JL:LSO:=[Aa 11 0,o1 12 (.bin .sub (tm 11) (.av (.int .u8 48))),Aa 2 12,AC 3]
def JK:LSO:=[Aa 14 0,o1 15 (.bin .geq (tm 14) (.av (.int .u8 97))),Aa 16 15,.grp none 16 true
 [Ai 17 16 0,og 18 16 true (.bin .leq (tm 17) (.av (.int .u8 102)))]
 19 (tm 18),Aa 13 19]
def JJ:LSO:=[Aa 20 0,o1 21 (.bin .sub (tm 20) (.av (.int .u8 97))),o1 22 (.bin .add (tm 21) (.av (.int .u8 10))),Aa 2 22,AC 3]
def JI:LSO:=[Aa 24 0,Ck 25 24,Aa 26 25,.grp none 26 true
 [Ai 27 26 0,og 28 26 true (.bin .leq (tm 27) (.av (.int .u8 70)))]
 29 (tm 28),Aa 23 29]
def JH:LSO:=[Aa 30 0,o1 31 (.bin .sub (tm 30) (.av (.int .u8 65))),o1 32 (.bin .add (tm 31) (.av (.int .u8 10))),Aa 2 32,AC 3]
def JG:LSO:=[Cm 2,An 3]
def zo:aS:=⟨33,(.seq (.sreg JN [])
 (.seq (.block 0 (.seq (.sreg JM Cs)
 (.cond (tm 4) (.seq (.sreg JL C2)
 .ret)
 (.seq (.sreg JK Cs)
 (.cond (tm 13) (.seq (.sreg JJ Cz)
 .ret)
 (.seq (.sreg JI Cs)
 (.cond (tm 23) (.seq (.sreg JH Cz)
 .ret)
 .skip)))))))
 (.seq (.sreg JG [])
 .ret))),[(.tmp 2),(.tmp 3)]⟩
attribute [push_cast] JN JM JL JK JJ JI JH JG
theorem SM:aT Tryz.prog (fun _ _=>1) 176=some zo.raw:=by kernel_rfl
def Gl:LSO:=[Ao 2,An 3]
def Gk:LSO:=[Aa 10 0,A2 11 10,By 12 11 2,Au 13 12 1]
def Gj:LSO:=[Ao 2,An 3]
def Gi:LSO:=[Aa 14 0,A2 15 14,B4 16 15 2,o1 17 (.mkslice 1 1 [(.int .u8 0)] (iv 0) (tm 16)),Aa 4 17]
def Gh:LSO:=[Ac 5 0]
def Gg:LSO:=[Aa 18 5,Aa 19 0,A2 20 19,Ak 21 18 20]
def Gf:LSO:=[Aa 25 0,Aa 26 5,AI 27 25 26,Aj 28 176 27,Aa 24 28,Aq 29 24,Ar 30 24,Aa 6 29,Aa 7 30]
def Ge:LSO:=[Aa 32 0,Aa 33 5,Ah 34 33 1,AI 35 32 34,Aj 36 176 35,Aa 31 36,Aq 37 31,Ar 38 31,Aa 8 37,Aa 9 38]
def Gd:LSO:=[Aa 39 7,AA 40 39,Aa 41 40,.grp none 41 false
 [Ag 42 41 9,AY 43 41 42]
 44 (tm 43)]
def Gc:LSO:=[Ao 2,An 3]
def yl:LSO:=[Aa 45 4,Aa 46 6,o1 47 (.bin .shl (tm 46) (.av (.int .u64 4))),Aa 48 8,o1 49 (.bin .or (tm 47) (tm 48)),AE 50 49,A9 51 45 50,Aa 4 51]
def yj:LSO:=[Aa 22 5,Ah 23 22 2,Aa 5 23]
def yh:LSO:=[Aa 52 4,AN 53 52,Aa 2 53,AC 3]
def uK:aS:=⟨54,(.seq (.sreg Gl [])
 (.seq (.seq (.sreg Gk Cr)
 (.cond (tm 13) (.seq (.sreg Gj [])
 .ret)
 .skip))
 (.seq (.sreg Gi Cs)
 (.seq (.seq (.sreg Gh [])
 (.block 0 (.loop (.seq (.seq (.sreg Gg Cr)
 (.cond (tm 21) .skip
 (.exit 0)))
 (.seq (.block 1 (.seq (.sreg Gf C5)
 (.seq (.sreg Ge CO)
 (.seq (.seq (.sreg Gd Cr)
 (.cond (tm 44) (.seq (.sreg Gc [])
 .ret)
 .skip))
 (.sreg yl Cw)))))
 (.sreg yj Cq))))))
 (.seq (.sreg yh C2)
 .ret))))),[(.tmp 2),(.tmp 3)]⟩
attribute [push_cast] Gl Gk Gj Gi Gh Gg Gf Ge Gd Gc yl yj yh
theorem Rh:aT Tryz.prog (fun _ _=>1) 164=some uK.raw:=by kernel_rfl
def Fg:LSO:=[Cm 2]
def Ff:LSO:=[Aa 3 0,o1 4 (.bin .lss (tm 3) (.av (.int .u8 10)))]
def Fe:LSO:=[Aa 5 0,o1 6 (.bin .add (.av (.int .u8 48)) (tm 5)),Aa 2 6]
def Fd:LSO:=[Aa 7 0,o1 8 (.bin .add (.av (.int .u8 97)) (tm 7)),o1 9 (.bin .sub (tm 8) (.av (.int .u8 10))),Aa 2 9]
def uF:aS:=⟨10,(.seq (.sreg Fg [])
 (.seq (.seq (.sreg Ff Cp)
 (.cond (tm 4) (.seq (.sreg Fe Cq)
 .ret)
 .skip))
 (.seq (.sreg Fd Cr)
 .ret))),[(.tmp 2)]⟩
attribute [push_cast] Fg Ff Fe Fd
theorem Rb:aT Tryz.prog (fun _ _=>1) 167=some uF.raw:=by kernel_rfl
def Fq:LSO:=[Ao 2,An 3]
def Fp:LSO:=[Ap 4]
def Fo:LSO:=[Aa 9 0,Aj 10 101 9,Aa 5 10]
def Fn:LSO:=[Ac 6 0]
def Fm:LSO:=[Aa 11 6,Ah 12 11 1,Aa 13 5,A2 14 13,Ak 15 12 14]
def Fl:LSO:=[An 7]
def Fk:LSO:=[Ac 8 0]
def Fj:LSO:=[Aa 18 8,AB 19 18 256,Aa 20 19,.grp none 20 true
 [Ai 21 20 7,og 22 20 true (.un .not (tm 21))]
 23 (tm 22)]
def Fi:LSO:=[Aa 26 8,B4 27 26 16,AZ 28 27,Aj 29 167 28,Aa 30 5,Aa 31 6,AI 32 30 31,AJ 33 29 32,Aa 34 33,.grp none 34 true
 [Ai 35 34 8,og 36 34 true (.bin .rem (tm 35) (iv 16)),og 37 34 true (.conv .u8 (tm 36)),og 38 34 true (.call 167 [(tm 37)]),Ai 39 34 5,Ai 40 34 6,Ch 41 34 40 1,Bp 42 34 39 41,
 og 43 34 true (.bin .eql (tm 38) (tm 42))]
 44 (tm 43)]
def Fh:LSO:=[Aa 45 4,Aa 46 8,AZ 47 46,AE 48 47,A9 49 45 48,Aa 4 49]
def xt:LSO:=[AC 7]
def xr:LSO:=[Aa 24 8,Ah 25 24 1,Aa 8 25]
def xo:LSO:=[Aa 50 7,AA 51 50]
def xm:LSO:=[Ao 2,An 3]
def xl:LSO:=[Aa 16 6,Ah 17 16 2,Aa 6 17]
def xk:LSO:=[Aa 52 0,A2 53 52,By 54 53 2,Au 55 54 1]
def xj:LSO:=[Ao 2,An 3]
def xh:LSO:=[Aa 56 4,AN 57 56,Aa 2 57,AC 3]
def uG:aS:=⟨58,(.seq (.sreg Fq [])
 (.seq (.sreg Fp [])
 (.seq (.sreg Fo Cq)
 (.seq (.seq (.sreg Fn [])
 (.block 0 (.loop (.seq (.seq (.sreg Fm Cs)
 (.cond (tm 15) .skip
 (.exit 0)))
 (.seq (.block 1 (.seq (.sreg Fl [])
 (.seq (.seq (.sreg Fk [])
 (.block 2 (.loop (.seq (.seq (.sreg Fj Cr)
 (.cond (tm 23) .skip
 (.exit 2)))
 (.seq (.block 3 (.seq (.sdreg Fi [.pure,.pure,.pure,(.read 0 0),.pure,.pure,(.read 0 0),.pure,.pure,.pure,.pure,.pure,(.read 0 0),.pure,.pure,.pure,(.read 0 0)] Cy)
 (.cond (tm 44) (.seq (.sreg Fh Ct)
 (.sreg xt []))
 .skip)))
 (.sreg xr Cq))))))
 (.seq (.sreg xo Cp)
 (.cond (tm 51) (.seq (.sreg xm [])
 .ret)
 .skip)))))
 (.sreg xl Cq))))))
 (.seq (.seq (.sreg xk Cr)
 (.cond (tm 55) (.seq (.sreg xj [])
 .ret)
 .skip))
 (.seq (.sreg xh C2)
 .ret)))))),[(.tmp 2),(.tmp 3)]⟩
attribute [push_cast] Fq Fp Fo Fn Fm Fl Fk Fj Fi Fh xt xr xo xm xl xk xj xh
theorem Rc:aT Tryz.prog (fun _ _=>1) 141=some uG.raw:=by kernel_rfl
attribute [push_cast] zq zn uK uG
variable {L:List Blk} {K:afC}
set_option maxHeartbeats 8000000
set_option maxRecDepth 100000
def eJ (c:UInt8):UInt8:=if 65<=c.toNat/\c.toNat<=90 then c+32 else c
def aH (s:List UInt8):List UInt8:=s.map eJ
theorem Wo {c:UInt8} (h1:65<=c.toNat) (h2:c.toNat<=90):((eJ c).toNat:Int)=(c.toNat:Int)+32:=by
 rw [eJ,if_pos ⟨h1,h2⟩,UInt8.toNat_add];have:(32:UInt8).toNat=32:=rfl;omega
theorem Kz {c:UInt8} (h:¬ (65<=c.toNat/\c.toNat<=90)):eJ c=c:=by rw [eJ,if_neg h]
theorem kH (l:List UInt8):(u8s l).all T5=true:=by
 simp only [u8s,List.all_map,ahC];intro x _;have:=x.toNat_lt;simp [T5]
theorem iR (l:List UInt8):(u8s l).map ur=l:=by
 induction l with
 | nil=>rfl
 | cons x l ih =>
   simp only [u8s,ahH,ahS] at ih ⊢;rw [ih];simp [ur]
theorem SR (l:List UInt8) (c:UInt8):u8s (l++[c])=u8s l++[.int .u8 c.toNat]:=by simp [u8s]
theorem Ue {s:List UInt8} {k:Nat} (h:k<s.length):aH (s.take (k+1))=aH (s.take k)++[eJ (s.getD k 0)]:=by
 rw [ahK h,aH,ahN];simp [aH,h]
theorem Xb {s:List UInt8} (hs:(s.length:Int)<=140737488351232) (h:K (.str (aH s)) L):afB 101 [.str s] L K:=by
 replace h:=hid h;refine acg SJ ?_;refine bi (l:=[]) (n:=0) 3 1 rfl (ahQ 1).symm ?_;refine ah (fun n T' L'=>∃ (k:Nat) (v:List AV),n=s.length - k/\k<=s.length/\v=u8s (aH (s.take k))/\T'=[(4,.int .i64 (k:Int)),(3,.gsl v k L.length 1),(2,.str []),(0,.str s)]/\L'=L++[.spare k 1]) (CutS (b:=by simp)) ⟨0,[],rfl,ahp _,rfl,rfl,rfl⟩ ?_;rintro _ _ _ ⟨k,v,rfl,hk,rfl,rfl,rfl⟩;by_cases hlt:k<s.length
 ·have h1:(k:Int)<(s.length:Int):=by omega
  have h2:=ace k (by omega);have hsucc:=hid (Ue hlt);have e:s.getD k 0=s.getD k 0:=rfl;obtain ⟨c,hc⟩:=aaR (s.getD k 0);rw [hc] at hsucc;have hc255:=c.toNat_lt;by_cases hu:65<=c.toNat/\c.toNat<=90
  ·have u1:(65:Int)<=(c.toNat:Int):=by omega
   have u2:(c.toNat:Int)<=90:=by omega
   have u3:=hid (Wo hu.1 hu.2);have u4:IntKind.u8.wrap ((c.toNat:Int) - 65)=(c.toNat:Int) - 65:=cq (by omega) (by omega);have u5:IntKind.u8.wrap ((c.toNat:Int) - 65+97)=(c.toNat:Int) - 65+97:=cq (by omega) (by omega);clear hu;refine wk ?_;refine aq _ _ _ (by omega) (CutS (b:=by simp)) ⟨k+1,_,rfl,hlt,?_,rfl,rfl⟩;rw [hsucc.out,SR,u3.out];simp only [show (c.toNat:Int) - 65+97=c.toNat+32 by omega]
  ·have u3:=hid (Kz hu);have u4:¬ ((65:Int)<=(c.toNat:Int)/\(c.toNat:Int)<=90):=by omega
   have u5:(decide ((65:Int)<=(c.toNat:Int)) && decide ((c.toNat:Int)<=90))=false:=by simp;omega
   clear hu
   repeat' first
    | refine cP ?_
    | (first|refine bY (by kernel_rfl) ?_|refine bj (by kernel_rfl) ?_|refine bm ?_|refine fy ?_|refine cT (fun _=>?_)|refine a8 ?_|refine b9 ?_)
      refine sm ?_
    | (first|refine bU (by kernel_rfl) ?_|refine bT ?_|refine bZ ?_|refine cY (a7 ?_))
      refine sl ?_
    | exact cU
    | first|apply cV|apply bV|apply cW|apply bW|apply cX|apply bX
    | refine br ?_
    | first|refine bp rfl ?_|refine bq rfl ?_|refine aW rfl ?_ ?_|refine bz rfl (fun _=>?_) (fun _=>?_)|refine bw rfl (fun _=>?_) (fun _=>?_)
    | ((first|refine aV (fun _=>?_) (fun _=>?_)|refine a6 (fun _=>?_) (fun _=>?_))<;>try refine sm ?_)
    | refine And.intro trivial ?_
    | refine And.intro (by omega) ?_
    | refine bA rfl (fun _=>?_) (fun _=>?_)
    | refine And.intro ?_ ?_
   all_goals first
    | omega
    | (refine aq _ _ _ (by omega) (CutS (b := by simp)) ⟨k + 1, _, rfl, hlt, ?_, rfl, rfl⟩
       rw [hsucc.out,SR,u3.out])
 ·have hke:k=s.length:=by omega
  subst hke;have h1:¬ (s.length:Int)<(s.length:Int):=by omega
  have e1:=kH (aH s);have e2:=iR (aH s);have e3:s.take s.length=s:=ahA;refine wk ?_;exact ab rfl h.out
theorem aeN {s:List UInt8} (hs:(s.length:Int)<=140737488351232) (h:K (.str (aH s)) L):afB 94 [.str s] L K:=by
 replace h:=hid h;refine acg SO ?_;refine ah (fun n T' L'=>∃ (k:Nat) (v:List AV),n=s.length - k/\k<=s.length/\v=u8s (aH (s.take k)++s.drop k)/\T'=[(10,.int .i64 (k:Int)),(9,.int .i64 s.length),(8,.lsl L.length 0 s.length none 1),(3,.lsl L.length 0 s.length none 1),(2,.str [])]/\L'=L++[.bytes v]) (CutS (b:=by simp)) ⟨0,_,rfl,ahp _,rfl,rfl,rfl⟩ ?_;rintro _ _ _ ⟨k,v,rfl,hk,hv,rfl,rfl⟩;by_cases hlt:k<s.length
 ·have h1:(k:Int)<(s.length:Int):=by omega
  have h2:=ace k (by omega);obtain ⟨c,hc⟩:=aaR (s.getD k 0);have hd:s.drop k=c::s.drop (k+1):=by
   rw [ah2 hlt,<- hc,ahE,ahB hlt];rfl
  have hlk:(aH (s.take k)).length=k:=by simp [aH];omega
  have hv1:v=u8s (aH (s.take k)) ++ .int .u8 c.toNat::u8s (s.drop (k+1)):=by rw [hv,hd];simp [u8s]
  have hl2:(u8s (aH (s.take k))).length=k:=by simp [u8s,hlk]
  have hvl:v.length=s.length:=by rw [hv];simp [u8s,aH];omega
  have hvk:k<v.length:=by omega
  have hvg:v.getD k .undef=.int .u8 c.toNat:=by rw [hv1];simp [ahE,ahu,hl2]
  have hsucc:=Ue hlt;rw [hc] at hsucc;have hnew:u8s (aH (s.take (k+1))++s.drop (k+1))=u8s (aH (s.take k)) ++ .int .u8 (eJ c).toNat::u8s (s.drop (k+1)):=by rw [hsucc];simp [u8s]
  have hspl:∀ x,v.take k++x::v.drop (k+1)=u8s (aH (s.take k))++x::u8s (s.drop (k+1)):=fun x=>by
   rw [hv1,List.take_left' hl2,List.drop_append,hl2,aiX (by omega),show k+1 - k=1 by omega];rfl
  clear hv hd hlk hsucc;replace hv1:=hid hv1;replace hnew:=hid hnew;replace hspl:=hid hspl;have hc255:=c.toNat_lt;by_cases hu:65<=c.toNat/\c.toNat<=90
  ·have u1:(65:Int)<=(c.toNat:Int):=by omega
   have u2:(c.toNat:Int)<=90:=by omega
   have u3:=hid (Wo hu.1 hu.2);have u4:IntKind.u8.wrap ((c.toNat:Int)+32)=(c.toNat:Int)+32:=cq (by omega) (by omega);clear hu;refine wk ?_;refine aq _ _ _ (by omega) (CutS (b:=by simp)) ⟨k+1,_,rfl,hlt,?_,rfl,rfl⟩;rw [hnew.out,u3.out];exact hspl.out _
  ·have u3:=hid (Kz hu);have u5:(decide ((65:Int)<=(c.toNat:Int)) && decide ((c.toNat:Int)<=90))=false:=by simp;omega
   clear hu
   repeat' first
    | refine cP ?_
    | (first|refine bY (by kernel_rfl) ?_|refine bj (by kernel_rfl) ?_|refine bm ?_|refine fy ?_|refine cT (fun _=>?_)|refine a8 ?_|refine b9 ?_)
      refine sm ?_
    | (first|refine bU (by kernel_rfl) ?_|refine bT ?_|refine bZ ?_|refine cY (a7 ?_))
      refine sl ?_
    | exact cU
    | first|apply cV|apply bV|apply cW|apply bW|apply cX|apply bX
    | refine br ?_
    | first|refine bp rfl ?_|refine bq rfl ?_|refine aW rfl ?_ ?_|refine bz rfl (fun _=>?_) (fun _=>?_)|refine bw rfl (fun _=>?_) (fun _=>?_)
    | ((first|refine aV (fun _=>?_) (fun _=>?_)|refine a6 (fun _=>?_) (fun _=>?_))<;>try refine sm ?_)
    | refine And.intro trivial ?_
    | refine And.intro (by omega) ?_
    | refine bA rfl (fun _=>?_) (fun _=>?_)
    | refine And.intro ?_ ?_
   all_goals first
    | omega
    | (refine aq _ _ _ (by omega) (CutS (b := by simp)) ⟨k + 1, _, rfl, hlt, ?_, rfl, rfl⟩
       rw [hnew.out,u3.out];exact hv1.out)
 ·have hke:k=s.length:=by omega
  subst hke;have h1:¬ (s.length:Int)<(s.length:Int):=by omega
  have hv1:v=u8s (aH s):=by rw [hv];simp
  clear hv;subst hv1;have e1:=kH (aH s);have e2:=iR (aH s);have e4:(u8s (aH s)).length=s.length:=by simp [u8s,aH]
  have e5:(u8s (aH s)).take s.length=u8s (aH s):=by rw [<- e4];exact ahA
  refine wk ?_;exact ab rfl h.out
theorem mN {s:List UInt8} (hs:(s.length:Int)<=100000) (h:K (.str (aH s)) L):afB 101 [.str s] L K:=Xb (by omega) h
theorem KE {s:List UInt8} (hs:(s.length:Int)<=100000) (h:K (.str (aH s)) L):afB 94 [.str s] L K:=aeN (by omega) h
def lp (c:UInt8):Option Nat:=if 48<=c.toNat/\c.toNat<=57 then some (c.toNat - 48) else if 97<=c.toNat/\c.toNat<=102 then some (c.toNat - 87) else if 65<=c.toNat/\c.toNat<=70 then some (c.toNat - 55) else none
theorem K9 {c:UInt8} {x:Nat} (h:lp c=some x):x<16:=by
 unfold lp at h;split at h
 ·cases h;omega
 ·split at h
  ·cases h;omega
  ·split at h
   ·cases h;omega
   ·cases h
theorem Y0 {c:UInt8} {L:List Blk} {K:afC} (h:K (.tup [.int .u8 ((lp c).getD 0:Nat),.bool (lp c).isSome]) L):afB 176 [.int .u8 c.toNat] L K:=by
 have hc:=c.toNat_lt;obtain ⟨n,hn⟩:=aaR (c.toNat);unfold lp at h;rw [hn] at h hc ⊢;clear hn;refine aa SM (by simp [zo]) ?_;simp only [zo,ag];by_cases h1:48<=n/\n<=57
 ·rw [if_pos h1] at h;replace h:=hid h;obtain ⟨a1,a2⟩:=h1;have b1:(48:Int)<=(n:Int):=by omega
  have b2:(n:Int)<=57:=by omega
  have b3:IntKind.u8.wrap ((n:Int) - 48)=(n:Int) - 48:=cq (by omega) (by omega);clear a1 a2;refine wk ?_;refine af ?_;have:=h.out;simpa [show ((n - 48:Nat):Int)=(n:Int) - 48 by omega] using this
 ·rw [if_neg h1] at h;have c1:(decide ((48:Int)<=(n:Int)) && decide ((n:Int)<=57))=false:=by simp;omega
  by_cases h2:97<=n/\n<=102
  ·rw [if_pos h2] at h;replace h:=hid h;obtain ⟨a1,a2⟩:=h2;have b1:(97:Int)<=(n:Int):=by omega
   have b2:(n:Int)<=102:=by omega
   have b4:IntKind.u8.wrap ((n:Int) - 97)=(n:Int) - 97:=cq (by omega) (by omega);have b5:IntKind.u8.wrap ((n:Int) - 97+10)=(n:Int) - 97+10:=cq (by omega) (by omega);clear a1 a2 h1;refine wk ?_;refine af ?_;have:=h.out;simpa [show ((n - 87:Nat):Int)=(n:Int) - 97+10 by omega] using this
  ·rw [if_neg h2] at h;have c2:(decide ((97:Int)<=(n:Int)) && decide ((n:Int)<=102))=false:=by simp;omega
   by_cases h3:65<=n/\n<=70
   ·rw [if_pos h3] at h;replace h:=hid h;obtain ⟨a1,a2⟩:=h3;have b1:(65:Int)<=(n:Int):=by omega
    have b2:(n:Int)<=70:=by omega
    have b4:IntKind.u8.wrap ((n:Int) - 65)=(n:Int) - 65:=cq (by omega) (by omega);have b5:IntKind.u8.wrap ((n:Int) - 65+10)=(n:Int) - 65+10:=cq (by omega) (by omega);clear a1 a2 h1 h2;refine wk ?_;refine af ?_;have:=h.out;simpa [show ((n - 55:Nat):Int)=(n:Int) - 65+10 by omega] using this
   ·rw [if_neg h3] at h;have c3:(decide ((65:Int)<=(n:Int)) && decide ((n:Int)<=70))=false:=by simp;omega
    replace h:=hid h;clear h1 h2 h3
    repeat' first
     | refine cP ?_
     | (first|refine bY (by kernel_rfl) ?_|refine bj (by kernel_rfl) ?_|refine bm ?_|refine fy ?_|refine cT (fun _=>?_)|refine a8 ?_|refine b9 ?_)
       refine sm ?_
     | (first|refine bU (by kernel_rfl) ?_|refine bT ?_|refine bZ ?_|refine cY (a7 ?_))
       refine sl ?_
     | exact cU
     | first|apply cV|apply bV|apply cW|apply bW|apply cX|apply bX
     | refine br ?_
     | first|refine bp rfl ?_|refine bq rfl ?_|refine aW rfl ?_ ?_|refine bz rfl (fun _=>?_) (fun _=>?_)|refine bw rfl (fun _=>?_) (fun _=>?_)
     | ((first|refine aV (fun _=>?_) (fun _=>?_)|refine a6 (fun _=>?_) (fun _=>?_))<;>try refine sm ?_)
     | refine And.intro trivial ?_
     | refine And.intro (by omega) ?_
     | refine bA rfl (fun _=>?_) (fun _=>?_)
     | refine And.intro ?_ ?_
    all_goals first
     | omega
     | (refine af ?_;simpa using h.out)
def QB (a b:UInt8):Option UInt8:=match lp a,lp b with
 | some x,some y=>some (UInt8.ofNat (16 * x+y))
 | _,_=>none
def Oi (a b:UInt8):AV:=match QB a b with
 | some c=>.tup [.str [c],.bool true]
 | none=>.tup [.str [],.bool false]
theorem afE:∀ x y:_root_.Fin 16,IntKind.u8.wrap (((BitVec.ofInt IntKind.u8.bits (IntKind.u8.wrap ((x.val:Int) * 2 ^ min 4 IntKind.u8.bits)) ||| BitVec.ofInt IntKind.u8.bits (y.val:Int)).toNat:Nat):Int)=16 * (x.val:Int)+(y.val:Int):=by decide +kernel
theorem ab7 {a b:UInt8} (h:K (Oi a b) L):afB 164 [.str [a,b]] L K:=by
 have hl:[a,b].length=2:=rfl;have ha:[a,b].getD 0 0=a:=rfl;have hb:[a,b].getD 1 0=b:=rfl;have d1:IntKind.i64.wrap (Int.tdiv 2 2)=1:=by decide
 have d2:Int.tmod 2 2=0:=by decide
 have d3:ee [AV.int IntKind.u8 0] 1=[AV.int IntKind.u8 0]:=rfl;have d4:IntKind.i64.wrap 1=1:=by decide
 have d5:IntKind.i64.wrap 2=2:=by decide
 replace h:=hid h;refine acg Rh ?_;refine ah (fun n T' L'=>(n=1/\T'=[(5,.int .i64 0),(4,.lsl L.length 0 0 (some 1) 1),(0,.str [a,b])]/\L'=L++[.cells [.int .u8 0]])\/(n=0/\∃ x y:Nat,Hid (lp a=some x)/\Hid (lp b=some y)/\T'=[(5,.int .i64 2),(4,.lsl (L.length+1) 0 1 none 1),(0,.str [a,b])]/\L'=L++[.dead,.cells [.int .u8 ((16 * x+y:Nat):Int)]])) (n0:=1) (T0:=[(5,.int .i64 0),(4,.lsl L.length 0 0 (some 1) 1),(0,.str [a,b])]) (L0:=L++[.cells [.int .u8 0]]) (CutS (b:=by simp)) (.inl ⟨rfl,rfl,rfl⟩) ?_;rintro _ _ _ (⟨rfl,rfl,rfl⟩|⟨rfl,x,y,hx,hy,rfl,rfl⟩)
 ·rcases hx:lp a with _|x
  ·have h':=h.out;simp only [Oi,QB,hx] at h';replace h':=hid h';have e1:(lp a).getD 0=0:=by rw [hx];rfl
   have e2:(lp a).isSome=false:=by rw [hx];rfl
   clear hx;have kk1:=@hid _ @Y0;refine wk ?_;exact ab rfl h'.out
  ·have e1:(lp a).getD 0=x:=by rw [hx];rfl
   have e2:(lp a).isSome=true:=by rw [hx];rfl
   have hx':=hid hx;rcases hy:lp b with _|y
   ·have h':=h.out;simp only [Oi,QB,hx,hy] at h';replace h':=hid h';have e3:(lp b).getD 0=0:=by rw [hy];rfl
    have e4:(lp b).isSome=false:=by rw [hy];rfl
    clear hx hy;have kk1:=@hid _ @Y0;refine wk ?_;exact ab rfl h'.out
   ·have e3:(lp b).getD 0=y:=by rw [hy];rfl
    have e4:(lp b).isSome=true:=by rw [hy];rfl
    have hy':=hid hy;have e5:=afE ⟨x,K9 hx⟩ ⟨y,K9 hy⟩;simp only at e5;clear hx hy;have kk1:=@hid _ @Y0;refine wk ?_;refine aq 0 _ _ (by omega) (CutL (b:=by simp)) (.inr ⟨rfl,x,y,hid rfl,hid rfl,rfl,?_⟩)
    first|rfl|rw [e5]
 ·have h':=h.out;simp only [Oi,QB,hx.out,hy.out] at h';replace h':=hid h';have lx:=K9 hx.out;have ly:=K9 hy.out;have u1:T5 (.int .u8 (16 * (x:Int)+(y:Int)))=true:=rfl;have u2:ur (.int .u8 (16 * (x:Int)+(y:Int)))=UInt8.ofNat (16 * x+y):=by
   simp only [ur];rw [show (16 * (x:Int)+(y:Int)).toNat=16 * x+y by omega]
  refine wk ?_;exact ab rfl h'.out
def GM (b:List UInt8):Bool:=b.isEmpty || b.getLast? == some 32
def aP (b:List UInt8) (c:UInt8):List UInt8:=if c=32/\GM b=true then b else b++[c]
def bQ (s:List UInt8):List UInt8:=s.foldl aP []
def du (b:List UInt8):List UInt8:=if b.getLast?=some 32 then b.dropLast else b
def bP (s:List UInt8):List UInt8:=du (bQ (aH s))
theorem Qr (b:List UInt8) (c:UInt8):(aP b c).length<=b.length+1:=by
 unfold aP;split<;>simp
theorem yP {s:List UInt8} {k:Nat} (h:k<s.length):bQ (s.take (k+1))=aP (bQ (s.take k)) (s.getD k 0):=by
 rw [ahK h,bQ,List.foldl_append];simp [bQ,h]
theorem qo (s:List UInt8):∀ k,(bQ (s.take k)).length<=k
 | 0=>by simp [bQ]
 | k+1=>by
   have ih:=qo s k;by_cases h:k<s.length
   ·rw [yP h];have:=Qr (bQ (s.take k)) (s.getD k 0);omega
   ·rw [ah0 (by omega),<- ah0 (l:=s) (i:=k) (by omega)];omega
theorem TA {s:List UInt8} (hs:(s.length:Int)<=100000) (h:K (.str (bP s)) L):afB 95 [.str s] L K:=by
 replace h:=hid h;refine aa SN (by simp [zp]) ?_;simp only [zp,ag];obtain ⟨t,ht⟩:=aaR (aH s);have htl:(t.length:Int)<=100000:=by rw [<- ht];simpa [aH] using hs
 have kk1:=@hid _ (fun L K=>KE hs (L:=L) (K:=K));refine wk ?_;refine bi (l:=[]) (n:=0) 3 1 rfl (ahQ 1).symm ?_;refine ah (fun n T' L'=>∃ (k:Nat) (b:List UInt8) (v:List AV) (m:Nat),n=t.length - k/\k<=t.length/\b=bQ (t.take k)/\v=u8s b/\m=b.length/\T'=[(10,.int .i64 (k:Int)),(9,.int .i64 t.length),(8,.sl (u8s t) t.length none),(3,.gsl v m L.length 1),(2,.str [])]/\L'=L++[.spare m 1]) (CutS (b:=by simp)) ⟨0,[],[],0,rfl,ahp _,rfl,rfl,rfl,rfl,rfl⟩ ?_;rintro _ _ _ ⟨k,b,v,m,rfl,hk,hb,rfl,rfl,rfl,rfl⟩;replace hb:=hid hb;by_cases hlt:k<t.length
 ·have h1:(k:Int)<(t.length:Int):=by omega
  have h2:=ace k (by omega);have hsucc:=hid (yP hlt);obtain ⟨c,hc⟩:=aaR (t.getD k 0);have hg:(u8s t).getD k .undef=.int .u8 c.toNat:=by simp [u8s,hlt,<- hc]
  have hlk:k<(u8s t).length:=by simpa [u8s] using hlt
  rw [hc] at hsucc;have hbl:b.length<=k:=by rw [hb.out];exact qo t k
  have hstep:∀ b',b'=aP b c->b'=bQ (t.take (k+1)):=fun b' e=>by rw [hsucc.out,<- hb.out];exact e
  have c32:((c.toNat:Int)=32)↔c=32:=⟨fun e=>ajh.1 (by have:(32:UInt8).toNat=32:=rfl;omega),fun e=>by rw [e];rfl⟩;replace hstep:=hid hstep;replace c32:=hid c32;clear hsucc hb hc;have hub:(u8s b).length=b.length:=by simp [u8s]
  have rest:∀ b',b'=aP b c->b'.length<=b.length+1:=fun b' e=>by rw [e];exact Qr b c
  clear rest;by_cases hc:(c.toNat:Int)=32
  ·rcases aji b with hb0|⟨d,x,hb0⟩
   ·have e0:(b.length:Int)=0:=by rw [hb0];rfl
    have e1:=hid (hstep.out b (by rw [aP,if_pos ⟨c32.out.1 hc,by rw [hb0];rfl⟩]));clear hb0;refine wk ?_;exact aq _ _ _ (by omega) (CutS (b:=by simp)) ⟨k+1,b,_,_,rfl,hlt,e1.out,rfl,rfl,rfl,rfl⟩
   ·have e0:¬ (b.length:Int)=0:=by rw [hb0];simp;omega
    have e1:IntKind.i64.wrap ((b.length:Int) - 1)=(d.length:Int):=by rw [ac (by omega) (by omega),hb0];simp
    have e2:(u8s b).getD d.length .undef=.int .u8 x.toNat:=by rw [hb0];simp [u8s,ahE]
    have e3:d.length<(u8s b).length:=by rw [hb0];simp [u8s]
    have e4:(d.length:Int)<(b.length:Int):=by rw [hb0];simp;omega
    have x32:x=32↔(x.toNat:Int)=32:=⟨fun e=>by rw [e];rfl,fun e=>ajh.1 (by have:(32:UInt8).toNat=32:=rfl;omega)⟩;have hend:GM b=true↔x=32:=by rw [hb0];simp [GM]
    replace hb0:=hid hb0;replace x32:=hid x32;replace hend:=hid hend;by_cases hx:(x.toNat:Int)=32
    ·have e5:=hid (hstep.out b (by rw [aP,if_pos ⟨c32.out.1 hc,hend.out.2 (x32.out.2 hx)⟩]));refine wk ?_;exact aq _ _ _ (by omega) (CutS (b:=by simp)) ⟨k+1,b,_,_,rfl,hlt,e5.out,rfl,rfl,rfl,rfl⟩
    ·have e5:=hid (hstep.out (b++[c]) (by rw [aP,if_neg fun e=>hx (x32.out.1 (hend.out.1 e.2))]));refine wk ?_;exact aq _ _ _ (by omega) (CutS (b:=by simp)) ⟨k+1,b++[c],_,_,rfl,hlt,e5.out,(by rw [SR,hc]),(by simp),rfl,rfl⟩
  ·have e1:=hid (hstep.out (b++[c]) (by rw [aP,if_neg fun e=>hc (c32.out.2 e.1)]));refine wk ?_;exact aq _ _ _ (by omega) (CutS (b:=by simp)) ⟨k+1,b++[c],_,_,rfl,hlt,e1.out,(SR b c).symm,(by simp),rfl,rfl⟩
 ·have hke:k=t.length:=by omega
  subst hke;have h1:¬ (t.length:Int)<(t.length:Int):=by omega
  have hbl:b.length<=t.length:=by rw [hb.out];exact qo t _
  have hub:(u8s b).length=b.length:=by simp [u8s]
  have hfin:du b=bP s:=by rw [bP,ht,hb.out,ahA]
  have e1:=kH b;have e2:=iR b;replace hb:=hid hfin;clear hfin;rcases aji b with hb0|⟨d,x,hb0⟩
  ·have e0:¬ (0:Int)<(b.length:Int):=by rw [hb0];simp
   have e3:=hid (show b=bP s by rw [<- hb.out,hb0];rfl);clear hb0;refine wk ?_;refine ab rfl ?_;rw [e3.out];exact h.out
  ·have e0:(0:Int)<(b.length:Int):=by rw [hb0];simp;try omega
   have e3:IntKind.i64.wrap ((b.length:Int) - 1)=(d.length:Int):=by rw [ac (by omega) (by omega),hb0];simp
   have e4:(u8s b).getD d.length .undef=.int .u8 x.toNat:=by rw [hb0];simp [u8s,ahE]
   have e5:d.length<(u8s b).length:=by rw [hb0];simp [u8s]
   have e6:(d.length:Int)<(b.length:Int):=by rw [hb0];simp;omega
   have e7:(u8s b).take d.length=u8s d:=by rw [hb0];simp [u8s]
   have e10:(u8s d).length=d.length:=by simp [u8s]
   have e8:=kH d;have e9:=iR d;have x32:x=32↔(x.toNat:Int)=32:=⟨fun e=>by rw [e];rfl,fun e=>ajh.1 (by have:(32:UInt8).toNat=32:=rfl;omega)⟩;have htr:du b=if x=32 then d else b:=by rw [hb0];simp [du]
   replace hb0:=hid hb0;replace htr:=hid htr;by_cases hx:(x.toNat:Int)=32
   ·have r:=hid (show d=bP s by rw [<- hb.out,htr.out,if_pos (x32.2 hx)]);replace x32:=hid x32;refine wk ?_;refine ab rfl ?_;rw [r.out];exact h.out
   ·have r:=hid (show b=bP s by rw [<- hb.out,htr.out,if_neg fun e=>hx (x32.1 e)]);replace x32:=hid x32;refine wk ?_;refine ab rfl ?_;rw [r.out];exact h.out
end Go.Proofs.YtobihfefmlgaoaaGreat.Av
