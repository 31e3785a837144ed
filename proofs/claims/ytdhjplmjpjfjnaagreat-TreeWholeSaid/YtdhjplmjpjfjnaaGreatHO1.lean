/- Joined texts of the walk, made small by a program. -/
import Derived.Test.YtdhjplmjpjfjnaaGreatHP4
import Derived.Test.YtdhjplmjpjfjnaaGreatRows
import Derived.KernelRfl
import Derived.Test.YtdhjplmjpjfjnaaGreatHP5
set_option linter.unusedSimpArgs false
set_option linter.unusedVariables false
set_option maxRecDepth 100000
namespace Go.Proofs.YtdhjplmjpjfjnaaGreat.Av
open Go
def ux:LSO:=[A0 2]
def uw:LSO:=[Aa 6 0,o1 7 (.s2bO (tm 6)),Aa 3 7]
def uv:LSO:=[Aa 8 3,Ae 9 8,Ac 10 0]
def uu:LSO:=[Al 11 10 9]
def ur:LSO:=[Aa 12 10,Aj 13 1 8 10,Ab 14 1 13,Aa 4 12,Aa 5 14]
def uq:LSO:=[Aa 15 5,o1 16 (.bin .geq (tm 15) (.av (.int .u8 65))),Aa 17 16,.grp none 17 true
 [Af 18 17 5,og 19 17 true (.bin .leq (tm 18) (.av (.int .u8 90)))]
 20 (tm 19)]
def uo:LSO:=[Aa 21 3,Aa 22 4,Aa 23 5,o1 24 (.bin .add (tm 23) (.av (.int .u8 32))),Aj 25 1 21 22,Ay 1 25 24]
def um:LSO:=[Ai 26 10 1,Aa 10 26]
def ul:LSO:=[Aa 27 3,Ba 28 27,Aa 2 28]
def qp:bh:=⟨29,(.seq (.sreg ux [])
 (.seq (.sreg uw B5)
 (.seq (.seq (.sreg uv [])
 (.block 0 (.loop (.seq (.sreg uu [])
 (.seq (.cond (tm 11) .skip
 (.exit 0))
 (.seq (.block 1 (.seq (.sreg ur BB)
 (.seq (.sreg uq B6)
 (.cond (tm 20) (.sreg uo [false,false,false,false,false])
 .skip))))
 (.sreg um B4)))))))
 (.seq (.sreg ul B5)
 .ret)))),[(.tmp 2)]⟩
attribute [push_cast] ux uw uv uu ur uq uo um ul
theorem CQ:bz Tryz.prog (fun r i=>if r=1∧i=1 then 2 else 1) 113=some qp.raw:=by kernel_rfl
def uj:LSO:=[A0 2]
def ui:LSO:=[Am 3]
def uh:LSO:=[Aa 6 0,Ah 7 113 6,o1 8 (.s2b (tm 7)),Ae 9 8,Ac 10 0]
def ug:LSO:=[Al 11 10 9]
def uf:LSO:=[Aj 12 1 8 10,Ab 13 1 12,Aa 5 13]
def ue:LSO:=[Aa 14 5,o1 15 (.bin .eql (tm 14) (.av (.int .u8 32))),Aa 16 15,.grp none 16 true
 [Af 17 16 3,AA 18 16 17,AH 19 16 18 0,Af 20 16 19,.grp (some (16,true)) 20 false
 [Ak 21 20 3,Ak 22 20 3,AI 23 20 22,By 24 20 23 1,og 25 20 false (.iaddr 1 (tm 21) (tm 24)),A6 26 20 1 25,B0 27 20 26]
 28 (tm 27)]
 29 (tm 28)]
def uc:LSO:=[Aa 30 3,Aa 31 5,Bk 32 31,AP 33 30 32,Aa 3 33]
def ub:LSO:=[Ai 34 10 1,Aa 10 34]
def t8:LSO:=[Aa 35 3,Ae 36 35,A3 37 36 0,Aa 38 37,.grp none 38 true
 [Af 39 38 3,Af 40 38 3,AA 41 38 40,B1 42 38 41 1,AL 43 38 1 39 42,As 44 38 1 43,Bq 45 38 44]
 46 (tm 45)]
def t7:LSO:=[Aa 47 3,Aa 48 3,Ae 49 48,AX 50 49 1,Bx 51 47 50,Aa 3 51]
def ry:LSO:=[Aa 52 3,Ba 53 52,Aa 2 53]
def qo:bh:=⟨54,(.seq (.sreg uj [])
 (.seq (.sreg ui [])
 (.seq (.seq (.sreg uh [true,true,true,false,false])
 (.block 0 (.loop (.seq (.sreg ug [])
 (.seq (.cond (tm 11) .skip
 (.exit 0))
 (.seq (.block 1 (.seq (.sreg uf B5)
 (.seq (.seq (.sreg ue B6)
 (.cond (tm 29) (.exit 1)
 .skip))
 (.sreg uc B7))))
 (.sreg ub B4)))))))
 (.seq (.seq (.sreg t8 B7)
 (.cond (tm 46) (.sreg t7 B9)
 .skip))
 (.seq (.sreg ry B5)
 .ret))))),[(.tmp 2)]⟩
attribute [push_cast] uj ui uh ug uf ue uc ub t8 t7 ry
theorem CP:bz Tryz.prog (fun _ _=>1) 114=some qo.raw:=by kernel_rfl
def t6:LSO:=[A0 2]
def tZ:LSO:=[Am 3]
def tY:LSO:=[Ac 4 0]
def tX:LSO:=[Aa 6 4,Aa 7 0,AD 8 7,Al 9 6 8]
def tW:LSO:=[Aa 12 0,Aa 13 4,Bb 14 12 13,Aa 5 14]
def tV:LSO:=[Aa 15 5,o1 16 (.bin .geq (tm 15) (.av (.int .u8 65))),Aa 17 16,.grp none 17 true
 [Af 18 17 5,og 19 17 true (.bin .leq (tm 18) (.av (.int .u8 90)))]
 20 (tm 19)]
def tU:LSO:=[Aa 21 5,o1 22 (.bin .sub (tm 21) (.av (.int .u8 65))),o1 23 (.bin .add (tm 22) (.av (.int .u8 97))),Aa 5 23]
def tT:LSO:=[Aa 24 3,Aa 25 5,Bk 26 25,AP 27 24 26,Aa 3 27]
def tS:LSO:=[Aa 10 4,Ai 11 10 1,Aa 4 11]
def tR:LSO:=[Aa 28 3,Ba 29 28,Aa 2 29]
def qn:bh:=⟨30,(.seq (.sreg t6 [])
 (.seq (.sreg tZ [])
 (.seq (.seq (.sreg tY [])
 (.block 0 (.loop (.seq (.seq (.sreg tX B6)
 (.cond (tm 9) .skip
 (.exit 0)))
 (.seq (.block 1 (.seq (.sreg tW B6)
 (.seq (.seq (.sreg tV B6)
 (.cond (tm 20) (.sreg tU B6)
 .skip))
 (.sreg tT B7))))
 (.sreg tS B5))))))
 (.seq (.sreg tR B5)
 .ret)))),[(.tmp 2)]⟩
attribute [push_cast] t6 tZ tY tX tW tV tU tT tS tR
theorem CO:bz Tryz.prog (fun _ _=>1) 80=some qn.raw:=by kernel_rfl
def tQ:LSO:=[A0 2]
def tP:LSO:=[Aa 8 0,Ah 9 80 8,Aa 3 9]
def tO:LSO:=[Am 4]
def tN:LSO:=[Ac 5 0]
def tM:LSO:=[Aa 10 5,Aa 11 3,AD 12 11,Al 13 10 12]
def tL:LSO:=[An 6]
def tK:LSO:=[Aa 16 5,Aa 7 16]
def tJ:LSO:=[Aa 17 7,Aa 18 3,AD 19 18,Al 20 17 19,Aa 21 20,.grp none 21 true
 [Af 22 21 6,og 23 21 true (.un .not (tm 22))]
 24 (tm 23)]
def tI:LSO:=[Aa 27 3,Aa 28 7,Bb 29 27 28,o1 30 (.bin .neq (tm 29) (.av (.int .u8 32))),Aa 6 30]
def tH:LSO:=[Aa 25 7,Ai 26 25 1,Aa 7 26]
def rx:LSO:=[Aa 31 6,AJ 32 31,Aa 33 32,.grp none 33 false
 [Ak 34 33 3,Ak 35 33 5,og 36 33 false (.idxS (tm 34) (tm 35)),B0 37 33 36,Ak 38 33 37,.grp (some (33,false)) 38 true
 [Af 39 38 4,AA 40 38 39,AH 41 38 40 0,Af 42 38 41,.grp (some (38,true)) 42 false
 [Ak 43 42 3,Ak 44 42 5,By 45 42 44 1,og 46 42 false (.idxS (tm 43) (tm 45)),B0 47 42 46]
 48 (tm 47)]
 49 (tm 48)]
 50 (tm 49)]
def ru:LSO:=[Aa 51 4,Aa 52 3,Aa 53 5,Bb 54 52 53,Bk 55 54,AP 56 51 55,Aa 4 56]
def rr:LSO:=[Aa 14 5,Ai 15 14 1,Aa 5 15]
def rq:LSO:=[Aa 57 4,Ba 58 57,Aa 2 58]
def qm:bh:=⟨59,(.seq (.sreg tQ [])
 (.seq (.sreg tP B5)
 (.seq (.sreg tO [])
 (.seq (.seq (.sreg tN [])
 (.block 0 (.loop (.seq (.seq (.sreg tM B6)
 (.cond (tm 13) .skip
 (.exit 0)))
 (.seq (.block 1 (.seq (.sreg tL [])
 (.seq (.seq (.sreg tK B4)
 (.block 2 (.loop (.seq (.seq (.sreg tJ B9)
 (.cond (tm 24) .skip
 (.exit 2)))
 (.seq (.block 3 (.sreg tI B7))
 (.sreg tH B5))))))
 (.seq (.seq (.sreg rx B6)
 (.cond (tm 50) (.exit 1)
 .skip))
 (.sreg ru B8)))))
 (.sreg rr B5))))))
 (.seq (.sreg rq B5)
 .ret))))),[(.tmp 2)]⟩
attribute [push_cast] tQ tP tO tN tM tL tK tJ tI tH rx ru rr rq
theorem CN:bz Tryz.prog (fun _ _=>1) 81=some qm.raw:=by kernel_rfl
variable {L:List Blk} {K:AV→List Blk→Prop}
set_option maxHeartbeats 8000000
set_option maxRecDepth 100000
def eo (c:UInt8):UInt8:=if 65≤c.toNat∧c.toNat≤90 then c+32 else c
def aD (s:List UInt8):List UInt8:=s.map eo
theorem FH {c:UInt8} (h1:65≤c.toNat) (h2:c.toNat≤90):((eo c).toNat:Int)=(c.toNat:Int)+32:=by
 rw [eo,if_pos ⟨h1,h2⟩,UInt8.toNat_add]
 have:(32:UInt8).toNat=32:=rfl
 omega
theorem vd {c:UInt8} (h:¬ (65≤c.toNat∧c.toNat≤90)):eo c=c:=by rw [eo,if_neg h]
theorem mO (l:List UInt8):(u8s l).all Jm=true:=by
 simp only [u8s,List.all_map,List.all_eq_true]
 intro x _
 have:=x.toNat_lt
 simp [Jm]
theorem lI (l:List UInt8):(u8s l).map Hn=l:=by
 induction l with
 | nil=>rfl
 | cons x l ih =>
   simp only [u8s,List.map_cons,List.map_map] at ih ⊢
   rw [ih]
   simp [Hn]
theorem CT (l:List UInt8) (c:UInt8):u8s (l++[c])=u8s l++[.int .u8 c.toNat]:=by simp [u8s]
theorem DR {s:List UInt8} {k:Nat} (h:k<s.length):aD (s.take (k+1))=aD (s.take k)++[eo (s.getD k 0)]:=by
 rw [List.take_succ_eq_append_getElem h,aD,List.map_append]
 simp [aD,h]
theorem Gn {s:List UInt8} (hs:(s.length:Int)≤140737488351232) (h:K (.str (aD s)) L):ab Tryz.prog 80 [.str s] L K:=by
 replace h:=hid h
 refine aa CO (by simp [qn]) ?_
 simp only [qn,am]
 refine wk ?_
 refine cq (l:=[]) (n:=0) 3 1 rfl (Nat.zero_mul 1).symm ?_
 refine ax (fun n T' L'=>∃ (k:Nat) (v:List AV),n=s.length - k∧k≤s.length∧v=u8s (aD (s.take k))∧T'=[(4,.int .i64 (k:Int)),(3,.gsl v k L.length 1),(2,.str []),(0,.str s)]∧L'=L++[.spare k 1]) (CutS (b:=by simp)) ⟨0,[],rfl,Nat.zero_le _,rfl,rfl,rfl⟩ ?_
 rintro _ _ _ ⟨k,v,rfl,hk,rfl,rfl,rfl⟩
 by_cases hlt:k<s.length
 · have h1:(k:Int)<(s.length:Int):=by omega
   have h2:IntKind.i64.wrap ((k:Int)+1)=(k:Int)+1:=ah (by omega) (by omega)
   have hsucc:=hid (DR hlt)
   have e:s.getD k 0=s.getD k 0:=rfl
   obtain ⟨c,hc⟩:∃ c,s.getD k 0=c:=⟨_,rfl⟩
   rw [hc] at hsucc
   have hc255:=c.toNat_lt
   by_cases hu:65≤c.toNat∧c.toNat≤90
   · have u1:(65:Int)≤(c.toNat:Int):=by omega
     have u2:(c.toNat:Int)≤90:=by omega
     have u3:=hid (FH hu.1 hu.2)
     have u4:IntKind.u8.wrap ((c.toNat:Int) - 65)=(c.toNat:Int) - 65:=zC (by omega) (by omega)
     have u5:IntKind.u8.wrap ((c.toNat:Int) - 65+97)=(c.toNat:Int) - 65+97:=zC (by omega) (by omega)
     clear hu
     refine wk ?_
     refine ay _ _ _ (by omega) (CutS (b:=by simp)) ⟨k+1,_,rfl,hlt,?_,rfl,rfl⟩
     rw [hsucc.out,CT,u3.out]
     simp only [show (c.toNat:Int) - 65+97=c.toNat+32 by omega]
   · have u3:=hid (vd hu)
     have u4:¬ ((65:Int)≤(c.toNat:Int)∧(c.toNat:Int)≤90):=by omega
     have u5:(decide ((65:Int)≤(c.toNat:Int)) && decide ((c.toNat:Int)≤90))=false:=by simp;omega
     clear hu
     repeat' first
       | refine dT ?_
       | (first|refine cA (by kernel_rfl) ?_|refine bM (by kernel_rfl) ?_|refine bN ?_|refine fN ?_|refine ez (fun _=>?_)|refine bv ?_|refine cC ?_)
         refine sm ?_
       | (first|refine ct (by kernel_rfl) ?_|refine co ?_|refine cB ?_|refine eF (bu ?_))
         refine sl ?_
       | exact eA
       | first|apply eB|apply cu|apply eC|apply cv|apply eD|apply cw
       | refine bQ ?_
       | first|refine bO rfl ?_|refine bP rfl ?_|refine aX rfl ?_ ?_|refine bX rfl (fun _=>?_) (fun _=>?_)|refine bW rfl (fun _=>?_) (fun _=>?_)
       | ((first|refine aW (fun _=>?_) (fun _=>?_)|refine br (fun _=>?_) (fun _=>?_))<;>try refine sm ?_)
       | refine And.intro trivial ?_
       | refine And.intro (by omega) ?_
       | refine bR rfl (fun _=>?_) (fun _=>?_)
       | refine And.intro ?_ ?_
     all_goals first
       | omega
       | (refine ay _ _ _ (by omega) (CutS (b := by simp)) ⟨k + 1, _, rfl, hlt, ?_, rfl, rfl⟩
          rw [hsucc.out,CT,u3.out])
 · have hke:k=s.length:=by omega
   subst hke
   have h1:¬ (s.length:Int)<(s.length:Int):=by omega
   have e1:=mO (aD s)
   have e2:=lI (aD s)
   have e3:s.take s.length=s:=List.take_length
   refine wk ?_
   exact ac rfl h.out
theorem Mn {s:List UInt8} (hs:(s.length:Int)≤140737488351232) (h:K (.str (aD s)) L):ab Tryz.prog 113 [.str s] L K:=by
 replace h:=hid h
 refine aa CQ (by simp [qp]) ?_
 simp only [qp,am]
 refine wk ?_
 refine ax (fun n T' L'=>∃ (k:Nat) (v:List AV),n=s.length - k∧k≤s.length∧v=u8s (aD (s.take k)++s.drop k)∧T'=[(10,.int .i64 (k:Int)),(9,.int .i64 s.length),(8,.lsl L.length 0 s.length none 1),(3,.lsl L.length 0 s.length none 1),(2,.str [])]∧L'=L++[.bytes v]) (CutS (b:=by simp)) ⟨0,_,rfl,Nat.zero_le _,rfl,rfl,rfl⟩ ?_
 rintro _ _ _ ⟨k,v,rfl,hk,hv,rfl,rfl⟩
 by_cases hlt:k<s.length
 · have h1:(k:Int)<(s.length:Int):=by omega
   have h2:IntKind.i64.wrap ((k:Int)+1)=(k:Int)+1:=ah (by omega) (by omega)
   obtain ⟨c,hc⟩:∃ c,s.getD k 0=c:=⟨_,rfl⟩
   have hd:s.drop k=c::s.drop (k+1):=by
     rw [List.drop_eq_getElem_cons hlt,← hc,List.getD_eq_getElem?_getD,List.getElem?_eq_getElem hlt];rfl
   have hlk:(aD (s.take k)).length=k:=by simp [aD];omega
   have hv1:v=u8s (aD (s.take k)) ++ .int .u8 c.toNat::u8s (s.drop (k+1)):=by rw [hv,hd];simp [u8s]
   have hl2:(u8s (aD (s.take k))).length=k:=by simp [u8s,hlk]
   have hvl:v.length=s.length:=by rw [hv];simp [u8s,aD];omega
   have hvk:k<v.length:=by omega
   have hvg:v.getD k .undef=.int .u8 c.toNat:=by rw [hv1];simp [List.getD_eq_getElem?_getD,List.getElem?_append_right,hl2]
   have hsucc:=DR hlt
   rw [hc] at hsucc
   have hnew:u8s (aD (s.take (k+1))++s.drop (k+1))=u8s (aD (s.take k)) ++ .int .u8 (eo c).toNat::u8s (s.drop (k+1)):=by rw [hsucc];simp [u8s]
   have hspl:∀ x,v.take k++x::v.drop (k+1)=u8s (aD (s.take k))++x::u8s (s.drop (k+1)):=fun x=>by
     rw [hv1,List.take_left' hl2,List.drop_append,hl2,List.drop_eq_nil_of_le (by omega),show k+1 - k=1 by omega];rfl
   clear hv hd hlk hsucc
   replace hv1:=hid hv1
   replace hnew:=hid hnew
   replace hspl:=hid hspl
   have hc255:=c.toNat_lt
   by_cases hu:65≤c.toNat∧c.toNat≤90
   · have u1:(65:Int)≤(c.toNat:Int):=by omega
     have u2:(c.toNat:Int)≤90:=by omega
     have u3:=hid (FH hu.1 hu.2)
     have u4:IntKind.u8.wrap ((c.toNat:Int)+32)=(c.toNat:Int)+32:=zC (by omega) (by omega)
     clear hu
     refine wk ?_
     refine ay _ _ _ (by omega) (CutS (b:=by simp)) ⟨k+1,_,rfl,hlt,?_,rfl,rfl⟩
     rw [hnew.out,u3.out]
     exact hspl.out _
   · have u3:=hid (vd hu)
     have u5:(decide ((65:Int)≤(c.toNat:Int)) && decide ((c.toNat:Int)≤90))=false:=by simp;omega
     clear hu
     repeat' first
       | refine dT ?_
       | (first|refine cA (by kernel_rfl) ?_|refine bM (by kernel_rfl) ?_|refine bN ?_|refine fN ?_|refine ez (fun _=>?_)|refine bv ?_|refine cC ?_)
         refine sm ?_
       | (first|refine ct (by kernel_rfl) ?_|refine co ?_|refine cB ?_|refine eF (bu ?_))
         refine sl ?_
       | exact eA
       | first|apply eB|apply cu|apply eC|apply cv|apply eD|apply cw
       | refine bQ ?_
       | first|refine bO rfl ?_|refine bP rfl ?_|refine aX rfl ?_ ?_|refine bX rfl (fun _=>?_) (fun _=>?_)|refine bW rfl (fun _=>?_) (fun _=>?_)
       | ((first|refine aW (fun _=>?_) (fun _=>?_)|refine br (fun _=>?_) (fun _=>?_))<;>try refine sm ?_)
       | refine And.intro trivial ?_
       | refine And.intro (by omega) ?_
       | refine bR rfl (fun _=>?_) (fun _=>?_)
       | refine And.intro ?_ ?_
     all_goals first
       | omega
       | (refine ay _ _ _ (by omega) (CutS (b := by simp)) ⟨k + 1, _, rfl, hlt, ?_, rfl, rfl⟩
          rw [hnew.out,u3.out]
          exact hv1.out)
 · have hke:k=s.length:=by omega
   subst hke
   have h1:¬ (s.length:Int)<(s.length:Int):=by omega
   have hv1:v=u8s (aD s):=by rw [hv];simp
   clear hv
   subst hv1
   have e1:=mO (aD s)
   have e2:=lI (aD s)
   have e4:(u8s (aD s)).length=s.length:=by simp [u8s,aD]
   have e5:(u8s (aD s)).take s.length=u8s (aD s):=by rw [← e4];exact List.take_length
   refine wk ?_
   exact ac rfl h.out
theorem lC {s:List UInt8} (hs:(s.length:Int)≤100000) (h:K (.str (aD s)) L):ab Tryz.prog 80 [.str s] L K:=Gn (by omega) h
theorem vi {s:List UInt8} (hs:(s.length:Int)≤100000) (h:K (.str (aD s)) L):ab Tryz.prog 113 [.str s] L K:=Mn (by omega) h
def Oj (c:UInt8):Option Nat:=if 48≤c.toNat∧c.toNat≤57 then some (c.toNat - 48) else if 97≤c.toNat∧c.toNat≤102 then some (c.toNat - 87) else if 65≤c.toNat∧c.toNat≤70 then some (c.toNat - 55) else none
def Ok (a b:UInt8):Option UInt8:=match Oj a,Oj b with
 | some x,some y=>some (UInt8.ofNat (16 * x+y))
 | _,_=>none
def sb (b:List UInt8):Bool:=b.isEmpty || b.getLast? == some 32
def aI (b:List UInt8) (c:UInt8):List UInt8:=if c=32∧sb b=true then b else b++[c]
def bm (s:List UInt8):List UInt8:=s.foldl aI []
def cF (b:List UInt8):List UInt8:=if b.getLast?=some 32 then b.dropLast else b
def bj (s:List UInt8):List UInt8:=cF (bm (aD s))
theorem y9 (b:List UInt8) (c:UInt8):(aI b c).length≤b.length+1:=by
 unfold aI;split<;>simp
theorem pX {s:List UInt8} {k:Nat} (h:k<s.length):bm (s.take (k+1))=aI (bm (s.take k)) (s.getD k 0):=by
 rw [List.take_succ_eq_append_getElem h,bm,List.foldl_append]
 simp [bm,h]
theorem lH (s:List UInt8):∀ k,(bm (s.take k)).length≤k
 | 0=>by simp [bm]
 | k+1=>by
   have ih:=lH s k
   by_cases h:k<s.length
   · rw [pX h]
     have:=y9 (bm (s.take k)) (s.getD k 0)
     omega
   · rw [List.take_of_length_le (by omega),← List.take_of_length_le (l:=s) (i:=k) (by omega)];omega
theorem Dp {s:List UInt8} (hs:(s.length:Int)≤100000) (h:K (.str (bj s)) L):ab Tryz.prog 114 [.str s] L K:=by
 replace h:=hid h
 refine aa CP (by simp [qo]) ?_
 simp only [qo,am]
 obtain ⟨t,ht⟩:∃ t,aD s=t:=⟨_,rfl⟩
 have htl:(t.length:Int)≤100000:=by rw [← ht];simpa [aD] using hs
 have kk1:=@hid _ (fun L K=>vi hs (L:=L) (K:=K))
 refine wk ?_
 refine cq (l:=[]) (n:=0) 3 1 rfl (Nat.zero_mul 1).symm ?_
 refine ax (fun n T' L'=>∃ (k:Nat) (b:List UInt8) (v:List AV) (m:Nat),n=t.length - k∧k≤t.length∧b=bm (t.take k)∧v=u8s b∧m=b.length∧T'=[(10,.int .i64 (k:Int)),(9,.int .i64 t.length),(8,.sl (u8s t) t.length none),(3,.gsl v m L.length 1),(2,.str [])]∧L'=L++[.spare m 1]) (CutS (b:=by simp)) ⟨0,[],[],0,rfl,Nat.zero_le _,rfl,rfl,rfl,rfl,rfl⟩ ?_
 rintro _ _ _ ⟨k,b,v,m,rfl,hk,hb,rfl,rfl,rfl,rfl⟩
 replace hb:=hid hb
 by_cases hlt:k<t.length
 · have h1:(k:Int)<(t.length:Int):=by omega
   have h2:IntKind.i64.wrap ((k:Int)+1)=(k:Int)+1:=ah (by omega) (by omega)
   have hsucc:=hid (pX hlt)
   obtain ⟨c,hc⟩:∃ c,t.getD k 0=c:=⟨_,rfl⟩
   have hg:(u8s t).getD k .undef=.int .u8 c.toNat:=by simp [u8s,hlt,← hc]
   have hlk:k<(u8s t).length:=by simpa [u8s] using hlt
   rw [hc] at hsucc
   have hbl:b.length≤k:=by rw [hb.out];exact lH t k
   have hstep:∀ b',b'=aI b c→b'=bm (t.take (k+1)):=fun b' e=>by rw [hsucc.out,← hb.out];exact e
   have c32:((c.toNat:Int)=32)↔c=32:=⟨fun e=>UInt8.toNat_inj.1 (by have:(32:UInt8).toNat=32:=rfl;omega),fun e=>by rw [e];rfl⟩
   replace hstep:=hid hstep
   replace c32:=hid c32
   clear hsucc hb hc
   have hub:(u8s b).length=b.length:=by simp [u8s]
   have rest:∀ b',b'=aI b c→b'.length≤b.length+1:=fun b' e=>by rw [e];exact y9 b c
   clear rest
   by_cases hc:(c.toNat:Int)=32
   · rcases List.eq_nil_or_concat b with hb0|⟨d,x,hb0⟩
     · have e0:(b.length:Int)=0:=by rw [hb0];rfl
       have e1:=hid (hstep.out b (by rw [aI,if_pos ⟨c32.out.1 hc,by rw [hb0];rfl⟩]))
       clear hb0
       refine wk ?_
       exact ay _ _ _ (by omega) (CutS (b:=by simp)) ⟨k+1,b,_,_,rfl,hlt,e1.out,rfl,rfl,rfl,rfl⟩
     · have e0:¬ (b.length:Int)=0:=by rw [hb0];simp;omega
       have e1:IntKind.i64.wrap ((b.length:Int) - 1)=(d.length:Int):=by rw [ah (by omega) (by omega),hb0];simp
       have e2:(u8s b).getD d.length .undef=.int .u8 x.toNat:=by rw [hb0];simp [u8s,List.getD_eq_getElem?_getD]
       have e3:d.length<(u8s b).length:=by rw [hb0];simp [u8s]
       have e4:(d.length:Int)<(b.length:Int):=by rw [hb0];simp;omega
       have x32:x=32↔(x.toNat:Int)=32:=⟨fun e=>by rw [e];rfl,fun e=>UInt8.toNat_inj.1 (by have:(32:UInt8).toNat=32:=rfl;omega)⟩
       have hend:sb b=true↔x=32:=by rw [hb0];simp [sb]
       replace hb0:=hid hb0
       replace x32:=hid x32
       replace hend:=hid hend
       by_cases hx:(x.toNat:Int)=32
       · have e5:=hid (hstep.out b (by rw [aI,if_pos ⟨c32.out.1 hc,hend.out.2 (x32.out.2 hx)⟩]))
         refine wk ?_
         exact ay _ _ _ (by omega) (CutS (b:=by simp)) ⟨k+1,b,_,_,rfl,hlt,e5.out,rfl,rfl,rfl,rfl⟩
       · have e5:=hid (hstep.out (b++[c]) (by rw [aI,if_neg fun e=>hx (x32.out.1 (hend.out.1 e.2))]))
         refine wk ?_
         exact ay _ _ _ (by omega) (CutS (b:=by simp)) ⟨k+1,b++[c],_,_,rfl,hlt,e5.out,(by rw [CT,hc]),(by simp),rfl,rfl⟩
   · have e1:=hid (hstep.out (b++[c]) (by rw [aI,if_neg fun e=>hc (c32.out.2 e.1)]))
     refine wk ?_
     exact ay _ _ _ (by omega) (CutS (b:=by simp)) ⟨k+1,b++[c],_,_,rfl,hlt,e1.out,(CT b c).symm,(by simp),rfl,rfl⟩
 · have hke:k=t.length:=by omega
   subst hke
   have h1:¬ (t.length:Int)<(t.length:Int):=by omega
   have hbl:b.length≤t.length:=by rw [hb.out];exact lH t _
   have hub:(u8s b).length=b.length:=by simp [u8s]
   have hfin:cF b=bj s:=by rw [bj,ht,hb.out,List.take_length]
   have e1:=mO b
   have e2:=lI b
   replace hb:=hid hfin
   clear hfin
   rcases List.eq_nil_or_concat b with hb0|⟨d,x,hb0⟩
   · have e0:¬ (0:Int)<(b.length:Int):=by rw [hb0];simp
     have e3:=hid (show b=bj s by rw [← hb.out,hb0];rfl)
     clear hb0
     refine wk ?_
     refine ac rfl ?_
     rw [e3.out];exact h.out
   · have e0:(0:Int)<(b.length:Int):=by rw [hb0];simp;try omega
     have e3:IntKind.i64.wrap ((b.length:Int) - 1)=(d.length:Int):=by rw [ah (by omega) (by omega),hb0];simp
     have e4:(u8s b).getD d.length .undef=.int .u8 x.toNat:=by rw [hb0];simp [u8s,List.getD_eq_getElem?_getD]
     have e5:d.length<(u8s b).length:=by rw [hb0];simp [u8s]
     have e6:(d.length:Int)<(b.length:Int):=by rw [hb0];simp;omega
     have e7:(u8s b).take d.length=u8s d:=by rw [hb0];simp [u8s]
     have e10:(u8s d).length=d.length:=by simp [u8s]
     have e8:=mO d
     have e9:=lI d
     have x32:x=32↔(x.toNat:Int)=32:=⟨fun e=>by rw [e];rfl,fun e=>UInt8.toNat_inj.1 (by have:(32:UInt8).toNat=32:=rfl;omega)⟩
     have htr:cF b=if x=32 then d else b:=by rw [hb0];simp [cF]
     replace hb0:=hid hb0
     replace htr:=hid htr
     by_cases hx:(x.toNat:Int)=32
     · have r:=hid (show d=bj s by rw [← hb.out,htr.out,if_pos (x32.2 hx)])
       replace x32:=hid x32
       refine wk ?_
       refine ac rfl ?_
       rw [r.out];exact h.out
     · have r:=hid (show b=bj s by rw [← hb.out,htr.out,if_neg fun e=>hx (x32.1 e)])
       replace x32:=hid x32
       refine wk ?_
       refine ac rfl ?_
       rw [r.out];exact h.out
end Go.Proofs.YtdhjplmjpjfjnaaGreat.Av
