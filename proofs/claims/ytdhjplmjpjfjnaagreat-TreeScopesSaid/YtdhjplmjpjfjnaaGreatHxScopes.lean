/- Joined texts of the walk, made small by a program. -/
import Derived.Test.YtdhjplmjpjfjnaaGreatHP5
import Derived.Test.YtdhjplmjpjfjnaaGreatHP4
import Derived.Test.YtdhjplmjpjfjnaaGreatRows
import Derived.KernelRfl
import Derived.Test.YtdhjplmjpjfjnaaGreatHCodeT2
import Derived.Test.YtdhjplmjpjfjnaaGreatHY2
import Derived.Test.YtdhjplmjpjfjnaaGreatHA1
import Derived.Test.YtdhjplmjpjfjnaaGreatHY4
import Derived.Test.YtdhjplmjpjfjnaaGreatHY1
import Derived.Test.YtdhjplmjpjfjnaaGreatHCodeT1
import Derived.Test.YtdhjplmjpjfjnaaGreatHD2
import Derived.Test.YtdhjplmjpjfjnaaGreatHTrRa
import Derived.Test.YtdhjplmjpjfjnaaGreatHCodeT3
import Derived.Test.YtdhjplmjpjfjnaaGreatHTrRc
import Derived.Test.YtdhjplmjpjfjnaaGreatHY7
import Derived.Test.YtdhjplmjpjfjnaaGreatHYA
import Derived.Test.YtdhjplmjpjfjnaaGreatHTrX
set_option linter.unusedSimpArgs false
set_option linter.unusedVariables false
namespace Go.Proofs.YtdhjplmjpjfjnaaGreat.Av
open Go Go.ChangeShapes Go.WideShapes Go.ChangeAt
variable {L:List Blk} {K:AV→List Blk→Prop}
set_option maxHeartbeats 8000000
set_option maxRecDepth 100000
theorem Qt {P:Program} {t:TypeId} {ts:List TypeId} {X Y:Type} {ec:X→List AV} {ok:X→Prop} {ec':Y→List AV} {ok':Y→Prop} (hg:gC P t=some true) (h:RdZ P t ec ok) (r:MK P ts ec' ok') :
   MK P (t::ts) (fun y:X×Y=>.agg (ec y.1)::ec' y.2) (fun y=>ok y.1∧ok' y.2):=fun H enc w base vs ds ps hok hx hwt=>by
 obtain ⟨v,vs',d,ds',p,q,rfl,rfl,rfl,h1,h2⟩:=trodAll_cons hx
 obtain ⟨fuel,h1⟩:=h1
 obtain ⟨y,h3,h4⟩:=h H enc w fuel _ _ h1 (fun n hn=>hwt n (by rw [DataW.weightsEach];exact List.mem_append_left _ hn))
 obtain ⟨z,h5,h6⟩:=r H enc w base vs' ds' q (fun j t v a b=>hok (j+1) t v a b) h2 (fun n hn=>hwt n (by rw [DataW.weightsEach];exact List.mem_append_right _ hn))
 refine ⟨(y,z),⟨h3,h5⟩,?_⟩
 have hv:=hok 0 t v rfl rfl
 unfold gC at hg
 have:∃ cs,v=.agg cs:=by
   unfold Value.okWide at hv
   split at hg
   all_goals rename_i hu;rw [hu] at hv
   · obtain ⟨cs,h,_⟩:=hv;exact ⟨cs,h⟩
   · obtain ⟨cs,h,_⟩:=hv;exact ⟨cs,h⟩
   · cases hg
   · cases hg
 obtain ⟨cs,rfl⟩:=this
 simp only [VRL]
 refine ⟨_,vs',rfl,?_,h6⟩
 simp only [VR]
 exact ⟨cs.toList,rfl,by simpa [Value.cells] using h4⟩
end Go.Proofs.YtdhjplmjpjfjnaaGreat.Av
set_option maxRecDepth 100000
namespace Go.Proofs.YtdhjplmjpjfjnaaGreat.Av
open Go
variable {L:List Blk} {K:AV→List Blk→Prop}
def Tf:LSO:=[An 4]
def Te:LSO:=[Ac 5 1]
def Td:LSO:=[Aa 10 5,Aa 11 0,Ae 12 11,o1 13 (.bin .leq (tm 10) (tm 12)),Aa 14 13,.grp none 14 true
 [Af 15 14 5,Af 16 14 1,AA 17 14 16,og 18 14 true (.bin .leq (tm 15) (tm 17))]
 19 (tm 18)]
def Tc:LSO:=[Aa 23 0,Aa 24 0,Ae 25 24,Aa 26 5,Bc 27 25 26,Aa 28 0,Ae 29 28,Aa 30 5,Bc 31 29 30,Ai 32 31 1,o1 33 (.slV 1 (tm 23) (some (tm 27)) (some (tm 32)) none),
 Ah 34 53 33,Aa 22 34,Ar 35 22,Aw 36 22,Aa 6 35,Aa 7 36]
def Ta:LSO:=[Aa 38 1,Aa 39 1,Ae 40 39,Aa 41 5,Bc 42 40 41,Aa 43 1,Ae 44 43,Aa 45 5,Bc 46 44 45,Ai 47 46 1,o1 48 (.slV 1 (tm 38) (some (tm 42)) (some (tm 47)) none),
 Ah 49 53 48,Aa 37 49,Ar 50 37,Aw 51 37,Aa 8 50,Aa 9 51]
def S9:LSO:=[Aa 52 6,Aa 53 8,Bg 54 52 53]
def S8:LSO:=[Aa 55 6,Aa 56 8,Al 57 55 56,Aa 4 57]
def S7:LSO:=[Aa 20 5,Ai 21 20 1,Aa 5 21]
def S6:LSO:=[Aa 58 0,Ae 59 58,Aa 60 1,Ae 61 60,Al 62 59 61,Aa 4 62]
def adL:bh:=⟨63,(.seq (.sreg Tf [])
 (.seq (.seq (.sreg Te [])
 (.block 0 (.loop (.seq (.seq (.sreg Td B9)
 (.cond (tm 19) .skip
 (.exit 0)))
 (.seq (.block 1 (.seq (.sreg Tc [false,true,false,false,false,false,false,false,false,false,false,false,false,false,false,false,false])
 (.seq (.sreg Ta [false,true,false,false,false,false,false,false,false,false,false,false,false,false,false,false,false])
 (.seq (.sreg S9 B5)
 (.cond (tm 54) (.seq (.sreg S8 B6)
 .ret)
 .skip)))))
 (.sreg S7 B5))))))
 (.seq (.sreg S6 B9)
 .ret))),[(.tmp 4)]⟩
attribute [push_cast] Tf Te Td Tc Ta S9 S8 S7 S6
theorem adK:bz Tryz.prog (fun _ _=>1) 44=some adL.raw:=by kernel_rfl
def TG:LSO:=[Am 6]
def TF:LSO:=[Aa 17 0,Aa 18 1,Aq 19 43 17 18,Aa 7 19]
def Tu:LSO:=[Aa 20 7,Bh 21 20 0,Aa 22 21,.grp none 22 false
 [Ak 23 22 2,og 24 22 false (.bin .lss (tm 23) (iv 0))]
 25 (tm 24),Aa 26 25,.grp none 26 false
 [Ak 27 26 2,AO 28 26 27 2]
 29 (tm 28)]
def Tn:LSO:=[Am 6]
def Tl:LSO:=[Am 8]
def Tk:LSO:=[Aa 30 0,Ag 31 30,Ad 32 1 31,Ab 33 1 32,Ae 34 33,Ac 35 0]
def Tj:LSO:=[Al 36 35 34]
def Ti:LSO:=[Aj 37 3 33 35,A1 38 3 37,o1 10 (.alloc [(.int .i64 0),(.sl [] 0 (some 0)),(.sl [] 0 (some 0))]),Ay 3 10 38]
def Th:LSO:=[Ad 39 1 10,Ab 40 1 39,Ae 41 40,Aa 42 0,Ag 43 42,Ad 44 1 43,Ab 45 1 44,Aa 46 7,Aj 47 3 45 46,Ad 48 1 47,Ab 49 1 48,Ae 50 49,Bc 51 41 50,Aa 11 51]
def Tg:LSO:=[Ad 52 1 10,Ab 53 1 52,Aa 54 0,Ag 55 54,Ad 56 1 55,Ab 57 1 56,Aa 58 7,Aj 59 3 57 58,Ad 60 1 59,Ab 61 1 60,Aq 62 22 53 61,AJ 63 62,Aa 64 63,
 .grp none 64 false
 [Ak 65 64 2,og 66 64 false (.bin .lss (tm 65) (iv 2)),Ak 67 64 66,.grp (some (64,false)) 67 true
 [Af 68 67 11,Af 69 67 2,og 70 67 true (.bin .neq (tm 68) (tm 69))]
 71 (tm 70)]
 72 (tm 71)]
def TE:LSO:=[Aa 73 8,Ae 74 73,Aa 12 74]
def TD:LSO:=[Aa 75 12,A3 76 75 0,Aa 77 76,.grp none 77 true
 [Ax 78 77 1 10,As 79 77 1 78,Af 80 77 8,Af 81 77 12,B1 82 77 81 1,AL 83 77 3 80 82,Ax 84 77 1 83,As 85 77 1 84,AB 86 77 44 79 85]
 87 (tm 86)]
def TC:LSO:=[Aa 88 12,AX 89 88 1,Aa 12 89]
def TB:LSO:=[Am 13]
def TA:LSO:=[Aa 90 13,Aa 91 8,Aa 92 12,o1 93 (.slV 3 (tm 91) none (some (tm 92)) none),
 o1 94 (.app 1 3 56 [(.int .i64 0),(.sl [] 0 (some 0)),(.sl [] 0 (some 0))] (tm 90) (tm 93)),Aa 13 94]
def Tz:LSO:=[Aa 95 13,A1 96 3 10,o1 97 (.bslice false 3 1 [(.int .i64 0),(.sl [] 0 (some 0)),(.sl [] 0 (some 0))] [(0,(3,(tm 96)))]),
 o1 98 (.app 1 3 56 [(.int .i64 0),(.sl [] 0 (some 0)),(.sl [] 0 (some 0))] (tm 95) (tm 97)),Aa 13 98]
def Ty:LSO:=[Aa 99 13,Aa 100 8,Aa 101 12,o1 102 (.slV 3 (tm 100) (some (tm 101)) none none),
 o1 103 (.app 1 3 56 [(.int .i64 0),(.sl [] 0 (some 0)),(.sl [] 0 (some 0))] (tm 99) (tm 102)),Aa 13 103]
def Tx:LSO:=[Aa 104 13,Aa 8 104]
def Tw:LSO:=[Ai 105 35 1,Aa 35 105]
def Tv:LSO:=[Am 14]
def Tt:LSO:=[Aa 106 8,Ae 107 106,Ac 108 0]
def Ts:LSO:=[Al 109 108 107]
def Tr:LSO:=[Aj 110 3 106 108,A1 111 3 110,o1 16 (.alloc [(.int .i64 0),(.sl [] 0 (some 0)),(.sl [] 0 (some 0))]),Ay 3 16 111]
def Tq:LSO:=[Aa 112 14,Ad 113 0 16,Ab 114 1 113,o1 115 (.bslice false 1 1 [(.int .i64 0)] [(0,(1,(tm 114)))]),
 o1 116 (.app 1 1 8 [(.int .i64 0)] (tm 112) (tm 115)),Aa 14 116]
def Tp:LSO:=[Ai 117 108 1,Aa 108 117]
def To:LSO:=[Aa 118 14,Aa 6 118]
def adN:bh:=⟨119,(.seq (.sreg TG [])
 (.seq (.sreg TF B6)
 (.seq (.seq (.sreg Tu B9)
 (.cond (tm 29) (.seq (.sreg Tn [])
 .ret)
 .skip))
 (.seq (.sreg Tl [])
 (.seq (.seq (.sreg Tk BL)
 (.block 0 (.loop (.seq (.sreg Tj [])
 (.seq (.cond (tm 36) .skip
 (.exit 0))
 (.seq (.block 1 (.seq (.sreg Ti B5)
 (.seq (.sdreg Th [.pure,(.read 0 0),(.read 0 0),.pure,(.read 0 0),.pure,(.read 0 0),.pure,(.read 0 0),.pure,(.read 0 0),(.read 0 0)] [true,false,false,false,false,false,false,false,false,false,false,false,false,false])
 (.seq (.seq (.sdreg Tg [.pure,(.read 0 0),.pure,(.read 0 0),.pure,(.read 0 0),.pure,(.read 0 0),.pure,(.read 0 0),(.read 0 0),.pure,.pure,.pure,.pure,.pure,.pure,.pure] [true,false,false,false,false,false,false,false,false,false,false,false,false,false])
 (.cond (tm 72) (.exit 1)
 .skip))
 (.seq (.sreg TE B5)
 (.seq (.block 2 (.loop (.seq (.seq (.sdreg TD [.pure,.pure,.pure,.pure,(.read 0 0),.pure,.pure,.pure,(.read 0 0),.pure,(.read 0 0)] B6)
 (.cond (tm 87) .skip
 (.exit 2)))
 (.block 3 (.sreg TC B5)))))
 (.seq (.sreg TB [])
 (.seq (.sreg TA B9)
 (.seq (.sreg Tz B7)
 (.seq (.sreg Ty B9)
 (.sreg Tx B4)))))))))))
 (.sreg Tw B4)))))))
 (.seq (.sreg Tv [])
 (.seq (.seq (.sreg Tt [])
 (.block 4 (.loop (.seq (.sreg Ts [])
 (.seq (.cond (tm 109) .skip
 (.exit 4))
 (.seq (.block 5 (.seq (.sreg Tr B5)
 (.sreg Tq B9)))
 (.sreg Tp B4)))))))
 (.seq (.sreg To B4)
 .ret)))))))),[(.tmp 6)]⟩
attribute [push_cast] TG TF Tu Tn Tl Tk Tj Ti Th Tg TE TD TC TB TA Tz Ty Tx Tw Tv Tt Ts Tr Tq Tp To
theorem adM:bz Tryz.prog (fun _ _=>1) 13=some adN.raw:=by kernel_rfl
set_option maxHeartbeats 8000000
set_option maxRecDepth 100000
theorem acS (l:List az) (k:Nat):(aM l).take (k * 3)=aM (l.take k):=by
 induction l generalizing k with
 | nil=>simp [aM]
 | cons x l ih =>
   cases k with
   | zero=>simp [aM]
   | succ k =>
     rw [List.take_succ_cons,show (k+1) * 3=k * 3+1+1+1 by omega]
     have:=ih k
     simp only [aM] at this
     simp [aM,zp,this]
theorem Qp {a:List Rdn} {k:Nat} (h:k<a.length):(NK a).reverse.drop k=bL true (a.getD (a.length - (k+1)) [])::(NK a).reverse.drop (k+1):=by
 rw [List.drop_eq_getElem_cons (by rw [List.length_reverse,aQ];exact h)]
 congr 1
 rw [List.getElem_reverse]
 simp only [NK,List.getElem_map,List.length_map]
 congr 1
 rw [List.getD_eq_getElem?_getD,List.getElem?_eq_getElem (by omega)]
 simp only [Option.getD_some]
 congr 1;omega
theorem abw (x y:List UInt8) (a b:Pth):pLt (x::a) (y::b)=if x=y then pLt a b else decide (x<y):=by
 unfold pLt
 rw [cpP]
 rcases pQ x y with ⟨c,e⟩|⟨c,e⟩|⟨c,e⟩
 · have hne:¬ x=y:=fun e2=>La y (by rw [e2] at c;exact c)
   rw [e];simp [hne,c]
 · rw [e,if_pos c];simp
 · have hne:¬ x=y:=fun e2=>La y (by rw [e2] at c;exact c)
   rw [e];simp [hne,My c]
theorem ae2 {a b:List Rdn} {ca cb:Option Nat} (ha:OkD a) (hb:OkD b) (h:K (.bool (pLt (NK a).reverse (NK b).reverse)) L) :
   ab Tryz.prog 44 [.sl (a.map ao) a.length ca,.sl (b.map ao) b.length cb] L K:=by
 have hal:=ha.len
 have hbl:=hb.len
 have kN:Hid (∀ {z:List Rdn} {p:Nat} {c:Option Nat} (hz:OkD z) (hp:p<z.length) {L:List Blk} {K:AV→List Blk→Prop},K (.tup [.str (bL true (z.getD p [])),.int .i64 0]) L→ab Tryz.prog 53 [.sl (List.take 1 (List.drop p (z.map ao))) 1 c] L K):=@hid _ (by
   intro z p c hz hp L K q
   have hm:z.getD p []∈z:=by simp [hp]
   have ho:=hz.one hm
   have e:List.take 1 (List.drop p (z.map ao))=[z.getD p []].map ao:=by
     rw [← List.map_drop,List.drop_eq_getElem_cons hp,show z.getD p []=z[p] by simp [hp]];rfl
   rw [e]
   refine Dh (d:=[z.getD p []]) ho.m.1 ho.m.2 ?_
   rw [eX ho,show aK true [z.getD p []]=bL true (z.getD p []) from by simp [aK,Lib.join]]
   exact q)
 obtain ⟨R,hR⟩:∃ R,pLt (NK a).reverse (NK b).reverse=R:=⟨_,rfl⟩
 rw [hR] at h
 replace h:=hid h
 replace hR:=hid hR
 replace ha:=hid ha
 replace hb:=hid hb
 refine aa adK (by simp [adL]) ?_
 simp only [adL,am]
 refine wk ?_
 refine ax (fun m T' L'=>∃ (k:Nat) (x:Int),m=a.length - k∧k≤a.length∧k≤b.length∧Hid (pLt ((NK a).reverse.drop k) ((NK b).reverse.drop k)=R)∧x=(k:Int)+1∧T'=[(5,.int .i64 x),(0,.sl (a.map ao) a.length ca),(1,.sl (b.map ao) b.length cb)]∧L=L') (CutS (b:=Nat.le_refl _)) ⟨0,1,rfl,Nat.zero_le _,Nat.zero_le _,hid hR.out,rfl,rfl,rfl⟩ ?_
 rintro _ _ L' ⟨k,x,rfl,hk,hkb,hI,hx,rfl,e⟩
 subst e
 clear hR
 have hI2:=hI.out
 by_cases hlt:k<a.length∧k<b.length
 · obtain ⟨l1,l2⟩:=hlt
   obtain ⟨p,hp⟩:∃ p,a.length - (k+1)=p:=⟨_,rfl⟩
   obtain ⟨q,hq⟩:∃ q,b.length - (k+1)=q:=⟨_,rfl⟩
   rw [Qp l1,Qp l2,hp,hq,abw] at hI2
   have g1:x≤(a.length:Int):=by omega
   have g2:x≤(b.length:Int):=by omega
   have w1:IntKind.i64.wrap ((a.length:Int) - x)=(p:Int):=by rw [ah (by omega) (by omega)];omega
   have w2:IntKind.i64.wrap ((b.length:Int) - x)=(q:Int):=by rw [ah (by omega) (by omega)];omega
   have w3:IntKind.i64.wrap ((p:Int)+1)=(p:Int)+1:=ah (by omega) (by omega)
   have w4:IntKind.i64.wrap ((q:Int)+1)=(q:Int)+1:=ah (by omega) (by omega)
   have w5:IntKind.i64.wrap (x+1)=x+1:=ah (by omega) (by omega)
   have t1:((p:Int)+1).toNat=p+1:=by omega
   have t2:((q:Int)+1).toNat=q+1:=by omega
   have t5:p+1 - p=1:=by omega
   have t6:q+1 - q=1:=by omega
   have t3:(p:Int)+1≤(a.length:Int):=by omega
   have t4:(q:Int)+1≤(b.length:Int):=by omega
   have kk1:Hid (∀ {c:Option Nat} {L:List Blk} {K:AV→List Blk→Prop},K (.tup [.str (bL true (a.getD p [])),.int .i64 0]) L→ab Tryz.prog 53 [.sl (List.take 1 (List.drop p (a.map ao))) 1 c] L K):=@hid _ (by intro c L K u;exact kN.out ha.out (by omega) u)
   have kk2:Hid (∀ {c:Option Nat} {L:List Blk} {K:AV→List Blk→Prop},K (.tup [.str (bL true (b.getD q [])),.int .i64 0]) L→ab Tryz.prog 53 [.sl (List.take 1 (List.drop q (b.map ao))) 1 c] L K):=@hid _ (by intro c L K u;exact kN.out hb.out (by omega) u)
   obtain ⟨s,hs⟩:∃ s,bL true (a.getD p [])=s:=⟨_,rfl⟩
   obtain ⟨t,ht⟩:∃ t,bL true (b.getD q [])=t:=⟨_,rfl⟩
   rw [hs] at kk1 hI2
   rw [ht] at kk2 hI2
   by_cases hst:s=t
   · rw [if_pos hst] at hI2
     subst hst
     have hx2:x+1=((k+1:Nat):Int)+1:=by omega
     replace hI2:=hid hI2
     replace hx2:=hid hx2
     have hm:a.length - (k+1)<a.length - k:=by omega
     replace hm:=hid hm
     clear hI hs ht hp hq hx kN
     refine wk ?_
     exact ay _ _ _ hm.out (CutL (b:=by simp)) ⟨k+1,_,rfl,l1,l2,hid hI2.out,hx2.out,rfl,rfl⟩
   · rw [if_neg hst] at hI2
     have h':=h.out
     rw [← hI2,← bytesLess_eq] at h'
     replace h':=hid h'
     clear hI hs ht hp hq hx kN hI2
     refine wk ?_
     exact ak h'.out
 · have hfin:R=decide ((a.length:Int)<(b.length:Int)):=by
     rw [← hI2]
     by_cases l1:k<a.length
     · have l2:b.length≤k:=by omega
       rw [Qp l1,List.drop_of_length_le (l:=(NK b).reverse) (by rw [List.length_reverse,aQ];exact l2)]
       rw [decide_eq_false (by omega)];rfl
     · rw [List.drop_of_length_le (l:=(NK a).reverse) (by rw [List.length_reverse,aQ];omega)]
       by_cases l2:k<b.length
       · rw [Qp l2,decide_eq_true (by omega)];rfl
       · rw [List.drop_of_length_le (l:=(NK b).reverse) (by rw [List.length_reverse,aQ];omega),decide_eq_false (by omega)];rfl
   have h':=h.out
   rw [hfin] at h'
   replace h':=hid h'
   clear hI hI2 hfin
   by_cases l1:k<a.length
   · have g1:x≤(a.length:Int):=by omega
     have g2:¬ x≤(b.length:Int):=by omega
     clear hx hlt hk hkb l1
     refine wk ?_
     exact ak h'.out
   · have g1:¬ x≤(a.length:Int):=by omega
     clear hx hlt hk hkb l1
     refine wk ?_
     exact ak h'.out
theorem acv (l:List az) (x:az):HL [] (l++[x])=Jp x (HL [] l):=by
 unfold HL;rw [List.foldl_append];rfl
theorem acx (l:List az):(HL [] l).length=l.length:=by
 have:=(Fb l []).length_eq
 simpa using this
theorem acw {l:List az} {y:az}:y∈HL [] l↔y∈l:=by
 have:=(Fb l []).mem_iff (a:=y)
 simpa using this
theorem acU:∀ l:List az,(aM l).all AV.one=true
 | []=>rfl
 | x::l=>by
   have ih:=acU l
   unfold aM at ih ⊢
   rw [List.flatMap_cons,List.all_append,ih];rfl
theorem Qc {suf:List Rdn} {last:Int} {l:List az} (ht:TOk suf last l) {id s:Int} {rt:Nat} {c:Option Nat} {a b:AV} (hn:l.length≤1000000) {L:List Blk} (hL:L[rt]?=some (.cells [a,.sl (aM l) l.length c,b])) {K:AV→List Blk→Prop} (h:K (.sl ((scT l id s).map (AV.int .i64)) (scT l id s).length none) L) :
   ab Tryz.prog 13 [.ptr rt 0,.int .i64 id,.int .i64 s] L K:=by
 have kk1:Hid (∀ {K:AV→List Blk→Prop},K (.int .i64 (byI l id)) L→ab Tryz.prog 43 [.ptr rt 0,.int .i64 id] L K):=@hid _ (by intro K q;exact Ma (by omega) hL q)
 have hel:=io l
 unfold scT at h
 rcases KZ l id with ⟨e1,e2⟩|⟨n,hlt,e1,e2⟩
 · rw [e2] at h
   rw [e1] at kk1
   replace h:=hid h
   clear e1 e2 ht
   refine aa adM (by simp [adN]) ?_
   simp only [adN,am]
   refine wk ?_
   refine cz ?_
   rw [show (AV.sl [] 0 (some 0)).frz=.sl (([]:List Int).map (AV.int .i64)) ([]:List Int).length none from rfl]
   exact ak h.out
 · rw [e2] at h
   rw [e1] at kk1
   simp only at h
   have g0:¬ (n:Int)<0:=by omega
   by_cases hs:s<0∨2<s
   · rw [if_pos hs] at h
     replace h:=hid h
     clear e1 e2 ht
     by_cases c1:s<0
     · refine aa adM (by simp [adN]) ?_
       simp only [adN,am]
       refine wk ?_
       refine cz ?_
       rw [show (AV.sl [] 0 (some 0)).frz=.sl (([]:List Int).map (AV.int .i64)) ([]:List Int).length none from rfl]
       exact ak h.out
     · have c2:2<s:=by omega
       have c3:s > 2:=c2
       refine aa adM (by simp [adN]) ?_
       simp only [adN,am]
       refine wk ?_
       refine cz ?_
       rw [show (AV.sl [] 0 (some 0)).frz=.sl (([]:List Int).map (AV.int .i64)) ([]:List Int).length none from rfl]
       exact ak h.out
   · rw [if_neg hs] at h
     have c1:¬ s<0:=by omega
     have c2:¬ 2<s:=by omega
     have c3:¬ s > 2:=c2
     have ham:l.getD n default∈l:=by simp [hlt]
     obtain ⟨_,e5,_⟩:=iq hlt
     obtain ⟨aaQv,haa⟩:∃ x,l.getD n default=x:=⟨_,rfl⟩
     rw [haa] at h e5 ham
     rw [← ht.ins aaQv s] at h
     have e4:n * 3+1<(aM l).length:=by rw [hel];omega
     have g1:(n:Int)<(l.length:Int):=by omega
     have hLX:∀ X:List Blk,(L++X)[rt]?=some (.cells [a,.sl (aM l) l.length c,b]):=fun X=>by rw [List.getElem?_append_left (List.getElem?_eq_some_iff.1 hL).1];exact hL
     replace h:=hid h
     replace ht:=hid ht
     clear e1 e2 hs
     refine aa adM (by simp [adN]) ?_
     simp only [adN,am]
     refine wk ?_
     refine ax (fun n' T' L'=>∃ (j:Nat) (m:List az),n'=l.length - j∧j≤l.length∧Hid (m=HL [] ((l.take j).filter (eQ aaQv s)))∧Hid (∃ Z,L'=L++Z)∧T'=[(35,.int .i64 (j:Int)),(34,.int .i64 l.length),(33,.sl (aM l) l.length c),(8,.sl (aM m) m.length none),(7,.int .i64 (n:Int)),(0,.ptr rt 0),(2,.int .i64 s)]) (CutS (b:=Nat.le_refl _)) ⟨0,[],rfl,Nat.zero_le _,hid rfl,hid ⟨[],by simp⟩,rfl⟩ ?_
     rintro _ _ L1 ⟨j,m,rfl,hj,hm,hZ,rfl⟩
     have hLr:∀ X:List Blk,(L1++X)[rt]?=some (.cells [a,.sl (aM l) l.length c,b]):=fun X=>by
       obtain ⟨Z,rfl⟩:=hZ.out
       rw [List.append_assoc];exact hLX _
     have hL1r:=hLr []
     rw [List.append_nil] at hL1r
     have hLl:L.length≤L1.length:=by obtain ⟨Z,rfl⟩:=hZ.out;simp
     by_cases hjl:j<l.length
     · have j1:(j:Int)<(l.length:Int):=by omega
       have j2:IntKind.i64.wrap ((j:Int)+1)=(j:Int)+1:=ah (by omega) (by omega)
       have e6:=pO hjl
       have e7:j * 3+3≤(aM l).length:=by rw [hel];omega
       have hym:l.getD j default∈l:=by simp [hjl]
       have htk:l.take (j+1)=l.take j++[l.getD j default]:=by rw [List.take_succ_eq_append_getElem hjl];simp [hjl]
       obtain ⟨x,hx⟩:∃ x,l.getD j default=x:=⟨_,rfl⟩
       rw [hx] at e6 hym htk
       unfold zp at e6
       have hox:=ht.out.ok x hym
       have hoa:=ht.out.ok aaQv ham
       have w1:IntKind.i64.wrap ((x.nm.length:Int) - (aaQv.nm.length:Int))=(x.nm.length:Int) - (aaQv.nm.length:Int):=by have:=hox.len;have:=hoa.len;exact ah (by omega) (by omega)
       have kk2:Hid (Ctr Tryz.prog 22 [dnA x.nm,dnA aaQv.nm] (.bool (bD x.nm aaQv.nm))):=@hid _ (by intro L K q;exact oF hox.m hoa.m q)
       have hin:eQ aaQv s x=(bD x.nm aaQv.nm && (decide (s=2) || decide ((x.nm.length:Int) - aaQv.nm.length=s))):=rfl
       have hget:∀ (b:Blk) (X:List Blk),(L1++b::X)[L1.length]?=some b:=fun b X=>by rw [List.getElem?_append_right (Nat.le_refl _)];simp
       obtain ⟨u,hu⟩:∃ u,bD x.nm aaQv.nm=u:=⟨_,rfl⟩
       rw [hu] at kk2 hin
       have hml:m.length≤j:=by
         rw [hm.out,acx]
         exact Nat.le_trans (List.length_filter_le _ _) (by simp;omega)
       have hmok:∀ y∈m,OkD y.nm:=fun y hy=>by
         rw [hm.out,acw] at hy
         exact ht.out.ok y (List.mem_of_mem_take (List.mem_filter.1 hy).1)
       have hmT:eQ aaQv s x=true→Hid (Jp x m=HL [] ((l.take (j+1)).filter (eQ aaQv s))):=fun e=>by
         rw [htk,List.filter_append,show [x].filter (eQ aaQv s)=[x] by simp [e],acv,hm.out];exact hid rfl
       have hmF:eQ aaQv s x=false→Hid (m=HL [] ((l.take (j+1)).filter (eQ aaQv s))):=fun e=>by
         rw [htk,List.filter_append,show [x].filter (eQ aaQv s)=[] by simp [e],List.append_nil];exact hid hm.out
       have hZ1:∀ X,Hid (∃ Z,L1++X=L++Z):=fun X=>by
         obtain ⟨Z,rfl⟩:=hZ.out
         exact hid ⟨Z++X,by rw [List.append_assoc]⟩
       have hcell:dnA x.nm=dnA x.nm:=rfl
       obtain ⟨xi,hxi⟩:∃ i,x.id=i:=⟨_,rfl⟩
       unfold atR at e6
       obtain ⟨xaQv,hxa⟩:∃ i,bg x.av=i:=⟨_,rfl⟩
       obtain ⟨xn,hxn⟩:∃ i,x.av.length=i:=⟨_,rfl⟩
       rw [hxi,hxa,hxn] at e6
       have hent:zp x=[.int .i64 xi,dnA x.nm,.sl xaQv xn none]:=by rw [← hxi,← hxa,← hxn];rfl
       have hcx:(u=false∨(u=true∧s<2∧(x.nm.length:Int) - aaQv.nm.length≠s))∨((u=true∧¬ s<2∧Hid (s=2))∨(u=true∧s<2∧(x.nm.length:Int) - aaQv.nm.length=s)):=by
         cases u with
         | false=>exact .inl (.inl rfl)
         | true =>
           by_cases q1:s=2
           · exact .inr (.inl ⟨rfl,by omega,hid q1⟩)
           · by_cases q2:(x.nm.length:Int) - aaQv.nm.length=s
             · exact .inr (.inr ⟨rfl,by omega,q2⟩)
             · exact .inl (.inr ⟨rfl,by omega,q2⟩)
       replace hmok:=hid hmok
       replace hent:=hid hent
       clear hcell hx hxi hxn hm
       rcases hcx with (rfl|⟨rfl,d1,d2⟩)|hcx
       · have hm2:=hmF (by rw [hin];rfl)
         clear hmT hmF hin htk
         refine wk ?_
         exact ay _ _ _ (by omega) (CutL (b:=by simp;omega)) ⟨j+1,m,rfl,hjl,hm2,hZ1 _,rfl⟩
       · have hm2:=hmF (by rw [hin,decide_eq_false d2,decide_eq_false (by omega)];rfl)
         clear hmT hmF hin htk
         refine wk ?_
         exact ay _ _ _ (by omega) (CutL (b:=by simp;omega)) ⟨j+1,m,rfl,hjl,hm2,hZ1 _,rfl⟩
       have hut:u=true:=by rcases hcx with h|h<;>exact h.1
       subst hut
       have hm2:=hmT (by
         rw [hin]
         rcases hcx with ⟨_,_,h⟩|⟨_,_,h⟩
         · rw [decide_eq_true h.out];rfl
         · rw [decide_eq_true h];simp)
       have kkA:Hid (∀ y∈m,∀ {L:List Blk} {K:AV→List Blk→Prop},K (.bool (pLt (pth x) (pth y))) L→ab Tryz.prog 44 [dnA x.nm,dnA y.nm] L K):=@hid _ (by
         intro y hy L K q
         exact ae2 hox (hmok.out y hy) q)
       have hik:=Fa x m m.length (Nat.le_refl _)
       have hel2:=io m
       obtain ⟨ikQv,hikn⟩:∃ ikQv,FM x m m.length=ikQv:=⟨_,rfl⟩
       have hIL:Hid (aM (Jp x m)=aM (m.take ikQv)++([.int .i64 xi,dnA x.nm,.sl xaQv xn none]++aM (m.drop ikQv))):=hid (by
         unfold Jp
         rw [hikn,List.append_assoc,pP,pP]
         congr 2)
       have hILl:Hid ((Jp x m).length=m.length+1):=hid (by
         have:=(Jo x m).length_eq
         simpa using this)
       rw [hikn] at hik
       have hik:=hik.1
       replace hikn:=hid hikn
       have fx1:AV.frzL (x.nm.map ao)=x.nm.map ao:=bc _
       have fx2:AV.frzL xaQv=xaQv:=by rw [← hxa];exact gK _
       have hml2:m.length≤1000000:=by omega
       clear hmT hmF hin htk hu hxa
       rcases hcx with ⟨_,d1,_⟩|⟨_,d1,d2⟩
       rotate_left
       rw [d2] at w1
       all_goals
         refine wk ?_
         refine ax (fun n' T' L'=>∃ k:Nat,n'=k∧k≤m.length∧Hid (FM x m k=ikQv)∧T'=[(12,.int .i64 (k:Int)),(10,.ptr L1.length 0),(35,.int .i64 (j:Int)),(34,.int .i64 l.length),(33,.sl (aM l) l.length c),(8,.sl (aM m) m.length none),(7,.int .i64 (n:Int)),(0,.ptr rt 0),(2,.int .i64 s)]∧L'=L1++[.cells [.int .i64 xi,dnA x.nm,.sl xaQv xn none]]) (CutS (b:=by simp)) ⟨m.length,rfl,Nat.le_refl _,hid hikn.out,rfl,rfl⟩ ?_
         rintro k _ _ ⟨_,rfl,hk,hI,rfl,rfl⟩
         cases k with
         | zero =>
           have hk0:ikQv=0:=hI.out.symm
           subst hk0
           have fm0:List.take (m.length * 3) (aM m)=aM m:=List.take_of_length_le (by omega)
           have fm1:=acU m
           have fm2:=pN m
           clear hI
           have hfr:∀ i,(AV.gsl (.int .i64 xi :: .sl (x.nm.map ao) x.nm.length none :: .sl xaQv xn none::aM m) (1+m.length) i 3).frz=.sl (aM (Jp x m)) (Jp x m).length none:=fun i=>by
             rw [hILl.out,Nat.add_comm]
             show AV.sl (AV.frzL _) _ none=_
             rw [show (AV.int .i64 xi :: .sl (x.nm.map ao) x.nm.length none :: .sl xaQv xn none::aM m)=aM (Jp x m) from hIL.out.symm,pN]
           replace hfr:=hid hfr
           refine wk ?_
           have hfr:=hfr.out
           exact ay _ [(35,.int .i64 ((j+1:Nat):Int)),(34,.int .i64 l.length),(33,.sl (aM l) l.length c),(8,.sl (aM (Jp x m)) (Jp x m).length none),(7,.int .i64 (n:Int)),(0,.ptr rt 0),(2,.int .i64 s)] _ (by omega) (Hh (by repeat' first|exact Hb|refine vJ rfl rfl ?_|refine vJ rfl (congrArg (AV.int _) (by omega)) ?_|refine Ek rfl (hfr _).symm ?_) (by simp;omega)) ⟨j+1,_,rfl,hjl,hm2,hZ1 _,rfl⟩
         | succ k => 
           have hkm:k<m.length:=hk
           have hgk:m[k]?=some m[k]:=List.getElem?_eq_getElem hkm
           obtain ⟨y,hy⟩:∃ y,m[k]=y:=⟨_,rfl⟩
           rw [hy] at hgk
           have hyd:m.getD k default=y:=by rw [List.getD_eq_getElem?_getD,hgk];rfl
           have hym2:y∈m:=List.mem_of_getElem? hgk
           obtain ⟨_,e8,_⟩:=iq hkm
           rw [hyd] at e8
           have e9:k * 3+1<(aM m).length:=by omega
           have kk3:=@hid _ (fun {L:List Blk} {K:AV→List Blk→Prop}=>kkA.out y hym2 (L:=L) (K:=K))
           have hI2:=hI.out
           unfold FM at hI2
           rw [hgk] at hI2
           simp only at hI2
           have w5Qv:IntKind.i64.wrap (((k+1:Nat):Int) - 1)=(k:Int):=by rw [ah (by omega) (by omega)];omega
           have w6Qv:(0:Int)<((k+1:Nat):Int):=by omega
           have w7Qv:((k+1:Nat):Int) > 0:=w6Qv
           have w8Qv:(k:Int)<(m.length:Int):=by omega
           obtain ⟨plQv,hpl⟩:∃ plQv,pLt (pth x) (pth y)=plQv:=⟨_,rfl⟩
           rw [hpl] at hI2 kk3
           obtain ⟨kzQv,hkz⟩:∃ kzQv:Int,((k+1:Nat):Int)=kzQv:=⟨_,rfl⟩
           cases plQv with
           | true =>
             simp only [if_true] at hI2
             rw [hkz] at w5Qv w6Qv w7Qv ⊢
             replace hI2:=hid hI2
             clear hI hy hgk hyd hym2 hpl
             refine wk ?_
             exact ay _ _ _ (by omega) (CutL (b:=by simp)) ⟨k,rfl,by omega,hid hI2.out,rfl,rfl⟩
           | false =>
             simp only [Bool.false_eq_true,if_false] at hI2
             subst hI2
             have ft1:List.take ((k+1) * 3) (aM m)=aM (m.take (k+1)):=acS m (k+1)
             have ft2:List.take ((m.length - (k+1)) * 3) (List.drop ((k+1) * 3) (aM m))=aM (m.drop (k+1)):=by
               rw [H3];exact List.take_of_length_le (by rw [io,List.length_drop];omega)
             have fl1:(aM (m.take (k+1))).length=(k+1) * 3:=by rw [io,List.length_take];congr 1;omega
             have fl2:(aM (m.drop (k+1))).length=(m.length - (k+1)) * 3:=by rw [io,List.length_drop]
             have fo1:=acU (m.take (k+1))
             have fo2:=acU (m.drop (k+1))
             have ff1:=pN (m.take (k+1))
             have ff2:=pN (m.drop (k+1))
             have fkQv:((k+1:Nat):Int)≤(m.length:Int):=by omega
             have fkt:(((k+1:Nat):Int)).toNat=k+1:=by omega
             have fk0:(0:Int)≤((k+1:Nat):Int):=by omega
             obtain ⟨k1,hk1⟩:∃ k1,k+1=k1:=⟨_,rfl⟩
             rw [hk1] at w5Qv w6Qv w7Qv ft1 ft2 fl1 fl2 fo1 fo2 ff1 ff2 fkQv fkt fk0 hk hik ⊢
             have hk1h:=hid hk1
             clear hI hy hgk hyd hym2 hpl hkz hk1
             have hfr:∀ i,(AV.gsl (aM (m.take k1) ++ .int .i64 xi :: .sl (x.nm.map ao) x.nm.length none :: .sl xaQv xn none::aM (m.drop k1)) (k1+1+(m.length - k1)) i 3).frz=.sl (aM (Jp x m)) (Jp x m).length none:=fun i=>by
               rw [hILl.out,show m.length+1=k1+1+(m.length - k1) by omega]
               show AV.sl (AV.frzL _) _ none=_
               have hIL2:=hIL.out
               rw [hk1h.out] at hIL2
               rw [show (aM (m.take k1) ++ .int .i64 xi :: .sl (x.nm.map ao) x.nm.length none :: .sl xaQv xn none::aM (m.drop k1))=aM (Jp x m) from hIL2.symm,pN]
             replace hfr:=hid hfr
             refine wk ?_
             have hfr:=hfr.out
             exact ay _ [(35,.int .i64 ((j+1:Nat):Int)),(34,.int .i64 l.length),(33,.sl (aM l) l.length c),(8,.sl (aM (Jp x m)) (Jp x m).length none),(7,.int .i64 (n:Int)),(0,.ptr rt 0),(2,.int .i64 s)] _ (by omega) (Hh (by repeat' first|exact Hb|refine vJ rfl rfl ?_|refine vJ rfl (congrArg (AV.int _) (by omega)) ?_|refine Ek rfl (hfr _).symm ?_) (by simp;omega)) ⟨j+1,_,rfl,hjl,hm2,hZ1 _,rfl⟩
     · have hje:j=l.length:=by omega
       subst hje
       have j1:¬ (l.length:Int)<(l.length:Int):=by omega
       have hm2:=hm.out
       rw [List.take_length] at hm2
       rw [← hm2] at h
       have hml:m.length≤l.length:=by
         rw [hm2,acx];exact List.length_filter_le _ _
       have hLZ:Hid (∃ Z,L1=L++Z):=hZ
       clear hm hm2 hZ
       have hel2:=io m
       have hLr':=hLr
       clear hLr' kk1 e5 e4 haa hL1r
       refine wk ?_
       refine cq (l:=[]) (n:=0) 14 1 rfl (Nat.zero_mul 1).symm ?_
       refine ax (fun n' T' L'=>∃ (k:Nat) (C:List AV) (X:List Blk),n'=m.length - k∧k≤m.length∧C=((m.take k).map (·.id)).map (AV.int .i64)∧T'=[(108,.int .i64 (k:Int)),(107,.int .i64 m.length),(106,.sl (aM m) m.length none),(14,.gsl C k L1.length 1)]∧L'=L1++(.spare k 1::X)) (CutS (b:=by simp)) ⟨0,[],[],rfl,Nat.zero_le _,by simp,rfl,rfl⟩ ?_
       rintro _ _ _ ⟨k,C,X,rfl,hk,hC,rfl,rfl⟩
       have hgX:∀ (b:Blk) (Y:List Blk),(L1 ++ .spare k 1::(X++b::Y))[L1.length+(X.length+1)]?=some b:=fun b Y=>by
         rw [List.getElem?_append_right (by omega),show L1.length+(X.length+1) - L1.length=X.length+1 by omega,List.getElem?_cons_succ,List.getElem?_append_right (Nat.le_refl _)];simp
       have hsX:∀ (b c:Blk) (Y:List Blk),(L1 ++ .spare k 1::(X++b::Y)).set (L1.length+(X.length+1)) c=L1 ++ .spare k 1::(X++c::Y):=fun b c Y=>by
         rw [List.set_append_right _ _ (by omega),show L1.length+(X.length+1) - L1.length=X.length+1 by omega,List.set_cons_succ,List.set_append_right _ _ (Nat.le_refl _)];simp
       by_cases hkl:k<m.length
       · have g1:(k:Int)<(m.length:Int):=by omega
         have g2:IntKind.i64.wrap ((k:Int)+1)=(k:Int)+1:=ah (by omega) (by omega)
         have e6:=pO hkl
         have e7:k * 3+3≤(aM m).length:=by rw [hel2];omega
         have htk:m.take (k+1)=m.take k++[m.getD k default]:=by rw [List.take_succ_eq_append_getElem hkl];simp [hkl]
         obtain ⟨x,hx⟩:∃ x,m.getD k default=x:=⟨_,rfl⟩
         rw [hx] at e6 htk
         unfold zp atR at e6
         obtain ⟨xi,hxi⟩:∃ i,x.id=i:=⟨_,rfl⟩
         have hC2:((m.take (k+1)).map (·.id)).map (AV.int .i64)=C++[.int .i64 xi]:=by rw [htk,hC];simp [hxi]
         rw [hxi] at e6
         replace hC2:=hid hC2
         clear hx htk hC hxi
         refine wk ?_
         exact ay _ _ _ (by omega) (CutL (b:=by simp)) ⟨k+1,_,_,rfl,hkl,hC2.out.symm,rfl,rfl⟩
       · have hke:k=m.length:=by omega
         subst hke
         have g1:¬ (m.length:Int)<(m.length:Int):=by omega
         rw [List.take_length] at hC
         have hCf:AV.frzL C=C:=by
           rw [hC]
           clear h hC hgX hsX hel2 hk hkl g1 hml
           induction m with
           | nil=>rfl
           | cons y m ih=>simp only [List.map_cons,AV.frzL,AV.frz,ih]
         have hCr:∀ q:Nat→Bool,AV.refsL q C=true:=fun q=>by
           rw [hC]
           clear h hC hgX hsX hel2 hk hkl g1 hml hCf
           induction m with
           | nil=>rfl
           | cons y m ih=>simp only [List.map_cons,AV.refsL,AV.refs,ih];rfl
         rw [← hC,List.length_map] at h
         clear hC
         refine wk ?_
         refine cz ?_
         simp only [AV.frz,hCf]
         obtain ⟨Z,rfl⟩:=hLZ.out
         rw [List.append_assoc]
         exact ac (by simp only [AV.refs,hCr]) h.out
end Go.Proofs.YtdhjplmjpjfjnaaGreat.Av
set_option maxRecDepth 100000
namespace Go.Proofs.YtdhjplmjpjfjnaaGreat.Av
open Go
variable {L:List Blk} {K:AV→List Blk→Prop}
def X6:LSO:=[An 4]
def X5:LSO:=[Aa 6 0,Ae 7 6,Aa 8 1,Ae 9 8,Bg 10 7 9]
def X4:LSO:=[An 4]
def X3:LSO:=[Aa 11 0,Ae 12 11,Ac 13 0]
def X2:LSO:=[Al 14 13 12]
def X0:LSO:=[Aa 15 13,Aa 5 15]
def XZ:LSO:=[Aa 16 0,Aa 17 5,Aj 18 1 16 17,Ab 19 1 18,Aa 20 1,Aa 21 5,Aj 22 1 20 21,Ab 23 1 22,Bg 24 19 23]
def XY:LSO:=[An 4]
def XX:LSO:=[Ai 25 13 1,Aa 13 25]
def XW:LSO:=[AY 4]
def aer:bh:=⟨26,(.seq (.sreg X6 [])
 (.seq (.seq (.sreg X5 B7)
 (.cond (tm 10) (.seq (.sreg X4 [])
 .ret)
 .skip))
 (.seq (.seq (.sreg X3 BC)
 (.block 0 (.loop (.seq (.sreg X2 [])
 (.seq (.cond (tm 14) .skip
 (.exit 0))
 (.seq (.block 1 (.seq (.sreg X0 B4)
 (.seq (.sdreg XZ [.pure,.pure,(.read 0 0),(.read 0 0),.pure,.pure,(.read 0 0),(.read 0 0)] BF)
 (.cond (tm 24) (.seq (.sreg XY [])
 .ret)
 .skip))))
 (.sreg XX B4)))))))
 (.seq (.sreg XW [])
 .ret)))),[(.tmp 4)]⟩
attribute [push_cast] X6 X5 X4 X3 X2 X0 XZ XY XX XW
theorem aeq:bz Tryz.prog (fun _ _=>1) 11=some aer.raw:=by kernel_rfl
def YO:LSO:=[A4 5 2,An 6]
def YN:LSO:=[Aa 13 0,Aa 14 1,Aq 15 9 13 14,Aa 12 15,Ar 16 12,Aw 17 12,Aa 7 16,Aa 8 17]
def YH:LSO:=[o1 18 (.call 10 []),AJ 19 18,Aa 20 19,.grp none 20 false
 [Ak 21 20 7,AS 22 20 21]
 23 (tm 22),Aa 24 23,.grp none 24 false
 [Ak 25 24 8,AS 26 24 25]
 27 (tm 26)]
def YG:LSO:=[o1 28 (.call 10 []),Aa 6 28]
def YF:LSO:=[Aa 29 8,Ag 30 29,Ad 31 1 30,Ab 32 1 31,Ae 33 32,Ac 34 0]
def YE:LSO:=[Al 35 34 33]
def YD:LSO:=[Aj 36 3 32 34,A1 37 3 36,o1 10 (.alloc [(.int .i64 0),(.sl [] 0 (some 0)),(.sl [] 0 (some 0))]),Ay 3 10 37]
def YC:LSO:=[Ac 38 0]
def YB:LSO:=[Bh 39 38 3]
def YA:LSO:=[Aa 40 38,Aa 11 40]
def YM:LSO:=[Aa 41 7,Ag 42 41,Ad 43 0 42,Ab 44 1 43,Ad 45 0 10,Ab 46 1 45,Aa 47 11,Bd 48 12 44 46 47,Aa 49 8,Ad 50 0 10,Ab 51 1 50,Aa 52 11,Bd 53 13 49 51 52,
 Aq 54 11 48 53,AJ 55 54]
def YL:LSO:=[An 6]
def YK:LSO:=[Ai 56 38 1,Aa 38 56]
def YJ:LSO:=[Ai 57 34 1,Aa 34 57]
def YI:LSO:=[Aa 58 7,Ag 59 58,Ad 60 0 59,Ab 61 1 60,o1 62 (.iaddrA 2 1 (tm 5) (iv 0)),Ab 63 1 62,o1 64 (.iaddrA 2 1 (tm 5) (iv 1)),Ab 65 1 64,
 Bd 66 12 61 63 65,Aa 67 8,o1 68 (.iaddrA 2 1 (tm 5) (iv 0)),Ab 69 1 68,o1 70 (.iaddrA 2 1 (tm 5) (iv 1)),Ab 71 1 70,Bd 72 13 67 69 71,Aq 73 11 66 72,Aa 6 73]
def aev:bh:=⟨74,(.seq (.sreg YO [])
 (.seq (.sreg YN BS)
 (.seq (.seq (.sreg YH B9)
 (.cond (tm 27) (.seq (.sreg YG B4)
 .ret)
 .skip))
 (.seq (.seq (.sreg YF BL)
 (.block 0 (.loop (.seq (.sreg YE [])
 (.seq (.cond (tm 35) .skip
 (.exit 0))
 (.seq (.block 1 (.seq (.sreg YD B5)
 (.seq (.sreg YC [])
 (.block 2 (.loop (.seq (.sreg YB [])
 (.seq (.cond (tm 39) .skip
 (.exit 2))
 (.seq (.block 3 (.seq (.sreg YA B4)
 (.seq (.sdreg YM [.pure,(.read 0 0),.pure,(.read 0 0),.pure,(.read 0 0),.pure,(.read 0 0),.pure,.pure,(.read 0 0),.pure] BM)
 (.cond (tm 55) (.seq (.sreg YL [])
 .ret)
 .skip))))
 (.sreg YK B4)))))))))
 (.sreg YJ B4)))))))
 (.seq (.sdreg YI [.pure,(.read 0 0),.pure,(.read 0 0),(.read 0 0),(.read 0 0),(.read 0 0),(.read 0 0),(.read 0 0),.pure,(.read 0 0),(.read 0 0),(.read 0 0),(.read 0 0)] [true,false,false,false,false,false,false,false,false,false,false,false,false,false,false,false,false])
 .ret))))),[(.tmp 6)]⟩
attribute [push_cast] YO YN YH YG YF YE YD YC YB YA YM YL YK YJ YI
theorem aeu:bz Tryz.prog (fun _ _=>1) 3=some aev.raw:=by kernel_rfl
set_option maxHeartbeats 8000000
set_option maxRecDepth 100000
theorem acp {a b:List Int} {na nb:Nat} (ha:na=a.length) (hb:nb=b.length) (hla:a.length≤1000000000) {c c':Option Nat} {A B:List AV} (hA:A=a.map (AV.int .i64)) (hB:B=b.map (AV.int .i64)) (h:K (.bool (decide (a=b))) L) :
   ab Tryz.prog 11 [.sl A na c,.sl B nb c'] L K:=by
 subst hA hB
 by_cases hl:na=nb
 rotate_left
 · have h1:¬ (na:Int)=(nb:Int):=by omega
   rw [decide_eq_false (fun e=>hl (by rw [ha,hb,e]))] at h
   replace h:=hid h
   clear ha hb
   refine aa aeq (by simp [aer]) ?_
   simp only [aer,am]
   refine wk ?_
   exact ak h.out
 subst hl
 obtain ⟨R,hR⟩:∃ R,decide (a=b)=R:=⟨_,rfl⟩
 rw [hR] at h
 replace h:=hid h
 replace hR:=hid hR
 have h3:(a.map (AV.int .i64)).length=na:=by rw [List.length_map,ha]
 have h4:(b.map (AV.int .i64)).length=na:=by rw [List.length_map,hb]
 rw [← ha] at hla
 replace ha:=hid ha
 replace hb:=hid hb
 refine aa aeq (by simp [aer]) ?_
 simp only [aer,am]
 refine wk ?_
 refine ax (fun m T' L'=>∃ j:Nat,m=na - j∧j≤na∧Hid (a.take j=b.take j)∧T'=[(13,.int .i64 (j:Int)),(12,.int .i64 na),(0,.sl (a.map (AV.int .i64)) na c),(1,.sl (b.map (AV.int .i64)) na c')]∧L=L') (CutS (b:=Nat.le_refl _)) ⟨0,rfl,Nat.zero_le _,hid rfl,rfl,rfl⟩ ?_
 rintro _ _ L' ⟨j,rfl,hj,hT,rfl,e⟩
 subst e
 by_cases hjl:j<na
 · have j1:(j:Int)<(na:Int):=by omega
   have j2:IntKind.i64.wrap ((j:Int)+1)=(j:Int)+1:=ah (by omega) (by omega)
   have hja:j<a.length:=by rw [← ha.out];exact hjl
   have hjb:j<b.length:=by rw [← hb.out];exact hjl
   have e1:(a.map (AV.int .i64)).getD j .undef=.int .i64 (a.getD j 0):=by
     rw [List.getD_eq_getElem?_getD,List.getD_eq_getElem?_getD];simp [hja]
   have e2:(b.map (AV.int .i64)).getD j .undef=.int .i64 (b.getD j 0):=by
     rw [List.getD_eq_getElem?_getD,List.getD_eq_getElem?_getD];simp [hjb]
   have hx:a.getD j 0=a[j]:=by simp [hja]
   have hy:b.getD j 0=b[j]:=by simp [hjb]
   have e3:j<(a.map (AV.int .i64)).length:=by rw [h3];exact hjl
   have e4:j<(b.map (AV.int .i64)).length:=by rw [h4];exact hjl
   by_cases hxy:a.getD j 0=b.getD j 0
   · have hst:Hid (a.take (j+1)=b.take (j+1)):=hid (by
       rw [List.take_succ_eq_append_getElem hja,List.take_succ_eq_append_getElem hjb,hT.out,← hx,← hy,hxy])
     obtain ⟨x,hx2⟩:∃ x,a.getD j 0=x:=⟨_,rfl⟩
     obtain ⟨y,hy2⟩:∃ x,b.getD j 0=x:=⟨_,rfl⟩
     rw [hx2] at e1 hxy
     rw [hy2] at e2 hxy
     subst hxy
     clear hx hy hx2 hy2 hT hja hjb
     refine wk ?_
     exact ay _ _ _ (by omega) (CutL (b:=by simp)) ⟨j+1,rfl,hjl,hst,rfl,rfl⟩
   · have hR0:=hR.out
     rw [decide_eq_false (fun e=>hxy (by rw [e]))] at hR0
     subst hR0
     obtain ⟨x,hx2⟩:∃ x,a.getD j 0=x:=⟨_,rfl⟩
     obtain ⟨y,hy2⟩:∃ x,b.getD j 0=x:=⟨_,rfl⟩
     rw [hx2] at e1 hxy
     rw [hy2] at e2 hxy
     clear hx hy hx2 hy2 hT hja hjb hR
     refine wk ?_
     exact ak h.out
 · have hje:j=na:=by omega
   subst hje
   have j1:¬ (j:Int)<(j:Int):=by omega
   have hT0:=hT.out
   have hR0:=hR.out
   rw [List.take_of_length_le (by rw [← ha.out];exact Nat.le_refl _),List.take_of_length_le (by rw [← hb.out];exact Nat.le_refl _)] at hT0
   rw [decide_eq_true hT0] at hR0
   subst hR0
   clear hT hT0 hR
   refine wk ?_
   exact ak h.out
open Go Go.ChangeShapes
theorem afy (l:List az) (id s:Int):(scT l id s).length≤l.length:=by
 unfold scT
 split
 · simp
 · split
   · simp
   · rw [List.length_map]
     unfold scL
     rw [List.length_mergeSort]
     exact List.length_filter_le _ _
theorem afw {H:Type} {enc:TypeId×Value→H} {P:Program} {w:World} {base:Nat} {spare:Nat→Bool} {held:Bool} {fuel:Nat} {t e:TypeId} {n:Nat} {cs:List Value} {x:DataW H×List MemPlace} (ht:P.underlying t=some (.array n e)) (h:DataW.trod enc P w base spare held fuel t cs=some x) :
   ∃ m,cs.length=P.cellsOf t∧∀ i,i<n→∃ y,DataW.trod enc P w base spare held m e ((cs.drop (i * P.cellsOf e)).take (P.cellsOf e))=some y:=by
 cases fuel with
 | zero=>simp [DataW.trod] at h
 | succ m =>
   unfold DataW.trod at h
   rw [ht] at h
   simp only at h
   split at h
   · rename_i hl
     rw [Option.map_eq_some_iff] at h
     obtain ⟨xs,hp,_⟩:=h
     refine ⟨m,hl,fun i hi=>?_⟩
     have h1:=mapM_some_get hp i i (by simp [hi])
     have h2:=mapM_some_length hp
     have h3:i<xs.length:=by simpa [h2] using hi
     exact ⟨xs[i],by rw [h1];exact List.getElem?_eq_getElem h3⟩
   · cases h
theorem afz:RdZ Tryz.prog 25 (fun p:Int×Int=>[.int .i64 p.1,.int .i64 p.2]) (fun _=>True):=fun H enc w fuel cs x hx _=>by
 obtain ⟨m,hl,hi⟩:=afw (n:=2) (e:=3) (by kernel_rfl) hx
 have c1:Program.cellsOf Tryz.prog 3=1:=by kernel_rfl
 have c2:Program.cellsOf Tryz.prog 25=2:=by kernel_rfl
 rw [c2] at hl
 rw [c1] at hi
 match cs,hl with
 | [a,b],_ =>
   obtain ⟨y,hy⟩:=hi 0 (by omega)
   obtain ⟨z,hz⟩:=hi 1 (by omega)
   obtain ⟨p,_,h1⟩:=Nu Tryz.underlying3 H enc w m [a] y (by simpa using hy)
   obtain ⟨q,_,h2⟩:=Nu Tryz.underlying3 H enc w m [b] z (by simpa using hz)
   exact ⟨(p,q),trivial,h1.append h2⟩
theorem afx {suf:List Rdn} (hs:Ex suf∧∀ r∈suf,∀ a∈r,(a.1.length:Int)≤140737488351232) {us:List Upd} (hn:(us.length:Int)≤9223372036854775807) (hu:∀ u∈us,Lg u) {cp:Option Nat} {a0 a1:Int} {K:AV→List Blk→Prop}
   (h:K (.bool true) []):ab Tryz.prog 3 [dnA suf,.sl (us.flatMap sq) us.length cp,.agg [.int .i64 a0,.int .i64 a1]] [] K:=by
 replace h:=hid h
 obtain ⟨US,hUS⟩:∃ US,us.flatMap sq=US:=⟨_,rfl⟩
 have kM:Hid (∀ {L:List Blk} {K:AV→List Blk→Prop},(∀ L',Hid (dx L L')→K (.tup [.nilptr,.nilptr]) L')→(∀ L' it iv mn mi rt nb bn ck ci rs c last l,Hid (Ll L' it iv mn mi rt nb bn ck ci rs c suf last l)→Hid (dx L L')→K (.tup [.ptr it 0,.ptr rt 0]) L')→ab Tryz.prog 9 [dnA suf,.sl US us.length cp] L K):=@hid _ (by
   intro L K q0 q1
   rw [← hUS]
   exact NB hs hn hu (fun L' k=>q0 L' (hid k)) (fun L' it iv mn mi rt nb bn ck ci rs c last l k1 k2=>q1 L' it iv mn mi rt nb bn ck ci rs c last l (hid k1) (hid k2)))
 have kk1:Hid (Ctr Tryz.prog 10 [] (.bool true)):=@hid _ (by intro L K q;exact ME q)
 rw [hUS]
 clear hs hn hu hUS
 refine aa aeu (by simp [aev]) ?_
 simp only [aev,am]
 refine wk ?_
 refine kM.out (fun L' hk=>?_) fun L' it iv mn mi rt nb bn ck ci rs c last l hm hk=>?_
 · clear kM
   refine wk ?_
   exact ac (L2:=L') rfl h.out
 have hi:=hm.out.it
 have hr:=hm.out.rt
 have hb:=hk.out.2 0 [.int .i64 a0,.int .i64 a1] rfl rfl
 have hlen:=hm.out.len
 have hel:=io l
 have ai:∀ X:List Blk,(L'++X)[it]?=some (.cells [.ptr iv 0]):=fun X=>by rw [List.getElem?_append_left (List.getElem?_eq_some_iff.1 hi).1];exact hi
 have ar:∀ X:List Blk,(L'++X)[rt]?=some (.cells [dnA suf,.sl (aM l) l.length c,.int .i64 last]):=fun X=>by rw [List.getElem?_append_left (List.getElem?_eq_some_iff.1 hr).1];exact hr
 have abQv:∀ X:List Blk,(L'++X)[0]?=some (.cells [.int .i64 a0,.int .i64 a1]):=fun X=>by rw [List.getElem?_append_left (List.getElem?_eq_some_iff.1 hb).1];exact hb
 have kk2:Hid (∀ {X:List Blk} {id s:Int} {K:AV→List Blk→Prop},K (.sl ((scT l id s).map (AV.int .i64)) (scT l id s).length none) (L'++X)→ab Tryz.prog 12 [.ptr iv 0,.int .i64 id,.int .i64 s] (L'++X) K):=@hid _ (by
   intro X id s K q;exact C9 hm.out.ok (by omega) (hm.out.code.app X) q)
 have kk3:Hid (∀ {X:List Blk} {id s:Int} {K:AV→List Blk→Prop},K (.sl ((scT l id s).map (AV.int .i64)) (scT l id s).length none) (L'++X)→ab Tryz.prog 13 [.ptr rt 0,.int .i64 id,.int .i64 s] (L'++X) K):=@hid _ (by
   intro X id s K q;exact Qc hm.out.ok (by omega) (ar X) q)
 have kk4:Hid (∀ {id s:Int} {L:List Blk} {K:AV→List Blk→Prop},K (.bool true) L→ab Tryz.prog 11 [.sl ((scT l id s).map (AV.int .i64)) (scT l id s).length none,.sl ((scT l id s).map (AV.int .i64)) (scT l id s).length none] L K):=@hid _ (by
   intro id s L K q
   refine acp rfl rfl ?_ rfl rfl (by rw [decide_eq_true rfl];exact q)
   have:=afy l id s
   omega)
 obtain ⟨ECQv,hEC⟩:∃ ECQv,aM l=ECQv:=⟨_,rfl⟩
 rw [hEC] at hel ar hr
 have hat:Hid (∀ k,k<l.length→∃ (id:Int) (A B:List AV) (p q:Nat),(ECQv.drop (k * 3)).take 3=[.int .i64 id,.sl A p none,.sl B q none]):=hid (by
   intro k hk2
   rw [← hEC]
   exact ⟨_,_,_,_,_,pO hk2⟩)
 clear kM hm hk hEC
 have e0:=ai []
 have e1:=ar []
 rw [List.append_nil] at e0 e1
 refine wk ?_
 clear e0 e1 kk1 hi hb hr
 refine ax (fun m T'' L''=>∃ (j:Nat) (X:List Blk),m=l.length - j∧j≤l.length∧T''=[(34,.int .i64 (j:Int)),(33,.int .i64 l.length),(32,.sl ECQv l.length c),(8,.ptr rt 0),(7,.ptr it 0),(5,.ptr 0 0)]∧L''=L'++X) (CutS (b:=by simp)) ⟨0,[],rfl,Nat.zero_le _,rfl,by simp⟩ ?_
 rintro _ _ _ ⟨j,X,rfl,hj,rfl,rfl⟩
 by_cases hjl:j<l.length
 · have j1:(j:Int)<(l.length:Int):=by omega
   have j2:IntKind.i64.wrap ((j:Int)+1)=(j:Int)+1:=ah (by omega) (by omega)
   obtain ⟨id,A,B,p,q,e6⟩:=hat.out j hjl
   have e7:j * 3+3≤ECQv.length:=by omega
   have hbx:∀ b:Blk,(L'++(X++[b]))[L'.length+X.length]?=some b:=fun b=>by
     rw [List.getElem?_append_right (by omega),show L'.length+X.length - L'.length=X.length by omega,List.getElem?_append_right (Nat.le_refl _)];simp
   have hsx:∀ b b':Blk,(L'++(X++[b])).set (L'.length+X.length) b'=L'++(X++[b']):=fun b b'=>by
     rw [List.set_append_right _ _ (by omega),show L'.length+X.length - L'.length=X.length by omega,List.set_append_right _ _ (Nat.le_refl _)];simp
   refine wk ?_
   refine ax (fun m T'' L''=>∃ s:Nat,m=3 - s∧s≤3∧T''=[(38,.int .i64 (s:Int)),(10,.ptr (L'.length+X.length) 0),(34,.int .i64 (j:Int)),(33,.int .i64 l.length),(32,.sl ECQv l.length c),(8,.ptr rt 0),(7,.ptr it 0),(5,.ptr 0 0)]∧L''=L'++(X++[.cells [.int .i64 id,.sl A p none,.sl B q none]])) (CutS (b:=Nat.le_refl _)) ⟨0,rfl,Nat.zero_le _,rfl,rfl⟩ ?_
   rintro _ _ _ ⟨s,rfl,hs,rfl,rfl⟩
   by_cases hsl:s<3
   · have j3:(s:Int)<3:=by omega
     have j4:IntKind.i64.wrap ((s:Int)+1)=(s:Int)+1:=ah (by omega) (by omega)
     refine wk ?_
     exact ay _ _ _ (by omega) (CutL (b:=by simp)) ⟨s+1,rfl,hsl,rfl,rfl⟩
   · have hse:s=3:=by omega
     subst hse
     have j3:¬ ((3:Nat):Int)<3:=by omega
     refine wk ?_
     exact ay _ _ _ (by omega) (CutL (b:=by simp)) ⟨j+1,_,rfl,hjl,rfl,rfl⟩
 · have hje:j=l.length:=by omega
   subst hje
   have j1:¬ (l.length:Int)<(l.length:Int):=by omega
   refine wk ?_
   exact ac (L2:=L'++X) rfl h.out
end Go.Proofs.YtdhjplmjpjfjnaaGreat.Av
