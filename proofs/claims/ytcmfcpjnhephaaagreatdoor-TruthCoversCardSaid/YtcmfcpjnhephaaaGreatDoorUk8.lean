/- Joined texts of the walk, made small by a program. -/
import Derived.Test.YtcmfcpjnhephaaaGreatDoorUk4
import Derived.Test.YtcmfcpjnhephaaaGreatDoorRows
import Derived.KernelRfl
import Derived.Test.YtcmfcpjnhephaaaGreatDoorUk7
import Derived.Laws.Externs
import Derived.Lib.Overlaps
import Derived.Test.YtcmfcpjnhephaaaGreatDoorUk5
import Derived.Test.YtcmfcpjnhephaaaGreatDoorUk6
import Derived.Lib.IndexMore
import Derived.Maps.RangeRun
import Derived.Test.YtcmfcpjnhephaaaGreatDoorUk3
set_option linter.unusedSimpArgs false
set_option linter.unusedVariables false
set_option maxRecDepth 100000
namespace Go.Proofs.YtcmfcpjnhephaaaGreatDoor.Av
open Go
variable {f v x n:List UInt8}{caps C c2:List AV}{m p n2 b c ck:Nat}{L L2 L':List Blk}{K:alp}{cap capT cap2:Option Nat}{ty:Typ}{ts:List Typ}{s1 s2:AV}{syn id:Int}{a:List Atr}{tys:List (List UInt8×Int)}{P:Int->Prop}{κ υ:Type}
def FV:LSO:=[Ab 4 0,Ae 5]
def FU:LSO:=[Aa 6 0,Aa 7 1,Ai 8 38 7,o1 9 (.call 145 [(tm 6),(tm 8),(.av (.func 146 []))]),Aq 10 9,Au 11 9,Aa 4 10,Aa 5 11]
def iM:aQ:=⟨12,(aoC FV [] (aoC FU CE .ret)),[(.tmp 4),(.tmp 5)]⟩
attribute [push_cast] FV FU
theorem xF:aoH 103=aoI iM:=aoL
def tx:LSO:=[A4 2 0,Ab 4 0]
def tw:LSO:=[Ad 5 0 2,Ac 6 1 5,Ai 7 38 6,Aa 8 1,Ar 9 126 7 8,Aa 4 9]
def fU:aQ:=⟨10,(aoC tx [] (aoC tw C0 .ret)),[(.tmp 4)]⟩
attribute [push_cast] tx tw
theorem su:aoH 146=aoI fU:=aoL
def FT:LSO:=[A4 3 0,Ab 6 0,Ae 7,Ae 8]
def FS:LSO:=[Ad 14 1 3,Ac 15 1 14,Aa 16 2,Ar 17 48 15 16,Aa 13 17,Aq 18 13,Au 19 13,Aa 9 18,Aa 10 19]
def FR:LSO:=[Aa 20 10,Ay 21 20]
def FQ:LSO:=[Ab 6 0,Ae 7,Ae 8]
def FP:LSO:=[Aa 23 1,Aa 24 9,o1 25 (.mkfn 156 [(tm 3)]),A8 26 155 23 24 25,Aa 22 26,Aq 27 22,Au 28 22,Aa 11 27,Aa 12 28]
def FO:LSO:=[Aa 29 11,Aa 30 12,Aa 6 29,Aa 7 30,Az 8]
def iL:aQ:=⟨31,(aoC FT [] (aoC FS CI (.seq (aoC FR Cw (aoE 21 (.sreg FQ []))) (aoC FP CI (aoC FO CR .ret))))),[(.tmp 6),(.tmp 7),(.tmp 8)]⟩
attribute [push_cast] FT FS FR FQ FP FO
theorem xE:aoH 119=aoI iL:=aoL
def tv:LSO:=[Ab 5 0]
def tu:LSO:=[Ad 9 1 2,Ac 10 1 9,Aa 11 0,Ar 12 48 10 11,Aa 8 12,Aq 13 8,Au 14 8,Aa 6 13,Aa 7 14]
def tt:LSO:=[Aa 15 6,Aa 16 1,Ar 17 126 15 16,Aa 5 17]
def qz:aQ:=⟨18,(aoC tv [] (aoC tu [false,true,false,false,false,false,false,false,false] (aoC tt Cy .ret))),[(.tmp 5)]⟩
attribute [push_cast] tv tu tt
theorem PI:aoH 156=aoI qz:=aoL
def Of:LSO:=[Al 4]
def Oe:LSO:=[Aa 8 0,Aa 9 1,Ar 10 103 8 9,Aa 7 10,Aq 11 7,Au 12 7,Aa 5 11,Aa 6 12]
def Od:LSO:=[Aa 13 6]
def Oc:LSO:=[Aa 14 0,Aa 15 5,Ao 16 2 14 15,Ad 17 1 16,Ac 18 1 17,Ai 19 51 18,Aa 4 19]
def Ob:LSO:=[Al 4]
def gx:aQ:=⟨20,(aoC Of [] (.seq (aoC Oe CE (aoC Od [] (aoE 13 (.sreg Oc C2)))) (aoC Ob [] .ret))),[(.tmp 4)]⟩
attribute [push_cast] Of Oe Od Oc Ob
theorem sv:aoH 52=aoI gx:=aoL
def Oa:LSO:=[A4 4 0,Ae 8]
def N9:LSO:=[Ap 17 2 4,Aa 18 2,Ar 19 49 17 18,Aa 16 19,Aq 20 16,Au 21 16,Bk 9,Aj 4 9 20,Aa 10 21]
def N8:LSO:=[Aa 23 1,Aa 24 2,Ar 25 103 23 24,Aa 22 25,Aq 26 22,Au 27 22,Aa 11 26,Aa 12 27]
def N7:LSO:=[Aa 28 10,Ay 29 28,Aa 30 29,.grp none 30 false
 [Ah 31 30 12,Bc 32 30 31]
 33 (tm 32)]
def N6:LSO:=[Ae 8]
def N5:LSO:=[Ap 35 4 9,Aa 36 1,Aa 37 11,Ao 38 2 36 37,Ad 39 1 38,Ac 40 1 39,Aa 41 3,A8 42 119 35 40 41,Aa 34 42,Aq 43 34,Au 44 34,Bl 45 34,Aa 13 43,Aa 14 44,Aa 15 45]
def N4:LSO:=[Aa 46 14,Aa 8 46]
def KF:aQ:=⟨47,(aoC Oa [] (aoC N9 CE (aoC N8 CE (.seq (aoC N7 Cy (aoE 33 (.sreg N6 []))) (.seq (.sdreg N5 [(.read 0 0),.pure,.pure,(.read 0 0),.pure,(.read 0 0),.pure,(.read 0 0),.pure,.pure,.pure,.pure,.pure,.pure] [false,true,false,false,false,false,false,false,false,false,false,false,false,false,false]) (aoC N4 Cw .ret)))))),[(.tmp 8)]⟩
attribute [push_cast] Oa N9 N8 N7 N6 N5 N4
theorem Wl:aoH 75=aoI KF:=aoL
def y5:LSO:=[A4 2 0,Bk 4,Ae 5]
def y0:LSO:=[Ap 6 2 2,o1 7 (.build [(.sl [] 0 (some 0)),(.sl [] 0 (some 0))] [(0,(2,(tm 6)))]),Aa 8 1,Ar 9 102 7 8,Aq 10 9,Au 11 9,Aj 4 4 10,Aa 5 11]
def tP:aQ:=⟨12,(aoC y5 [] (aoC y0 C2 .ret)),[(.cell true 4 4),(.tmp 5)]⟩
attribute [push_cast] y5 y0
theorem S5:aoH 49=aoI tP:=aoL
def oY:LSO:=[A4 2 0,A4 3 1,Bk 4,Ae 5]
def oX:LSO:=[Ad 7 0 2,Ad 8 0 7,Ac 9 1 8,o1 10 (.mkfn 143 [(tm 3)]),Ar 11 142 9 10,Aa 6 11]
def oW:LSO:=[Aa 12 6,AF 13 12 0]
def oV:LSO:=[o1 14 (.build [(.str []),(.int .i64 0),(.bool false),(.bool false)] []),Aj 4 4 14,Ae 5]
def oU:LSO:=[Ad 15 0 2,Ad 16 0 15,Ac 17 1 16,Aa 18 6,Ao 19 4 17 18,Ap 20 4 19,Aj 4 4 20,Az 5]
def iQ:aQ:=⟨21,(aoC oY [] (aoC oX C0 (.seq (aoC oW Cw (aoE 13 (.sreg oV Cw))) (aoC oU C2 .ret)))),[(.cell true 4 4),(.tmp 5)]⟩
attribute [push_cast] oY oX oW oV oU
theorem Gc:aoH 102=aoI iQ:=aoL
def jV:LSO:=[A4 2 0,Ae 3]
def jU:LSO:=[Ad 4 0 2,Ac 5 1 4,Ac 6 1 1,Ar 7 144 5 6,Aa 3 7]
def gv:aQ:=⟨8,(aoC jV [] (aoC jU Cz .ret)),[(.tmp 3)]⟩
attribute [push_cast] jV jU
theorem xC:aoH 143=aoI gv:=aoL
def yZ:LSO:=[Ae 4]
def yY:LSO:=[Aa 5 0,Ai 6 38 5,Aa 7 1,Ai 8 38 7,AH 9 6 8,Aa 4 9]
def tO:aQ:=⟨10,(aoC yZ [] (aoC yY C0 .ret)),[(.tmp 4)]⟩
attribute [push_cast] yZ yY
theorem S4:aoH 144=aoI tO:=aoL
def dz:LSO:=[Ab 4 0]
def dy:LSO:=[Aa 6 0,Am 7 6,Ab 8 0]
def dx:LSO:=[Ak 9 8 7]
def dw:LSO:=[Aa 10 8,Aa 5 10]
def dv:LSO:=[Aa 11 1,Aa 12 0,Aa 13 5,Ao 14 4 12 13,Ap 15 4 14,Bt 16 11 15]
def du:LSO:=[Aa 17 5,Aa 4 17]
def dt:LSO:=[Ag 18 8 1,Aa 8 18]
def dr:LSO:=[Ab 4 (-1)]
def cF:aQ:=⟨19,(aoC dz [] (.seq (aoC dy C3 (aoF 0 (aoC dx [] (.seq (aoG 9 0) (.seq (.block 1 (aoC dw Cw (aoC dv C0 (aoE 16 (.sreg du Cw))))) (.sreg dt Cw)))))) (aoC dr [] .ret))),[(.tmp 4)]⟩
attribute [push_cast] dz dy dx dw dv du dt dr
theorem gc:aoH 142=aoI cF:=aoL
def bY:LSO:=[Ab 6 0,Ae 7]
def bX:LSO:=[Aa 12 0,Am 13 12,Aa 8 13]
def bW:LSO:=[Aa 14 8,Ab 9 0,Aa 10 14]
def bV:LSO:=[Aa 15 9,Aa 16 10,Ak 17 15 16]
def bU:LSO:=[Aa 18 9,Aa 19 10,AO 20 18 19,o1 21 (.conv .u64 (tm 20)),o1 22 (.bin .shr (tm 21) (.av (.int .u64 1))),Bm 23 22,
 Aa 11 23]
def bT:LSO:=[Aa 24 2,Aa 25 0,Aa 26 11,Ao 27 2 25 26,Ap 28 2 27,Aa 29 1,Ce 30 24 28 29,AF 31 30 0]
def bS:LSO:=[Aa 32 11,Ag 33 32 1,Aa 9 33]
def bR:LSO:=[Aa 34 11,Aa 10 34]
def bQ:LSO:=[Aa 35 9,Aa 36 9,Aa 37 8,Ak 38 36 37,Aa 39 38,.grp none 39 true
 [Af 40 39 2,Af 41 39 0,Af 42 39 9,B4 43 39 2 41 42,og 44 39 true (.load true 2 (tm 43)),Af 45 39 1,og 46 39 true (.callv (tm 40) [(tm 44),(tm 45)]),AZ 47 39 46 0]
 48 (tm 47),Aa 6 35,Aa 7 48]
def aN:aQ:=⟨49,(aoC bY [] (aoC bX Cx (aoC bW C3 (.seq (aoF 0 (.seq (aoC bV Cx (aoG 17 0)) (.block 1 (aoC bU C2 (aoC bT C4 (aoD 31 (.sreg bS Cx) (.sreg bR Cw))))))) (aoC bQ CE .ret))))),[(.tmp 6),(.tmp 7)]⟩
attribute [push_cast] bY bX bW bV bU bT bS bR bQ
theorem bM:aoH 145=aoI aN:=aoL
def cE:LSO:=[Ab 6 0,Ae 7]
def cD:LSO:=[Aa 12 0,Am 13 12,Aa 8 13]
def cC:LSO:=[Aa 14 8,Ab 9 0,Aa 10 14]
def cB:LSO:=[Aa 15 9,Aa 16 10,Ak 17 15 16]
def cA:LSO:=[Aa 18 9,Aa 19 10,AO 20 18 19,o1 21 (.conv .u64 (tm 20)),o1 22 (.bin .shr (tm 21) (.av (.int .u64 1))),Bm 23 22,
 Aa 11 23]
def cz:LSO:=[Aa 24 2,Aa 25 0,Aa 26 11,Ao 27 1 25 26,Ac 28 1 27,Aa 29 1,Ce 30 24 28 29,AF 31 30 0]
def cy:LSO:=[Aa 32 11,Ag 33 32 1,Aa 9 33]
def cx:LSO:=[Aa 34 11,Aa 10 34]
def cw:LSO:=[Aa 35 9,Aa 36 9,Aa 37 8,Ak 38 36 37,Aa 39 38,.grp none 39 true
 [Af 40 39 2,Af 41 39 0,Af 42 39 9,B4 43 39 1 41 42,A6 44 39 1 43,Af 45 39 1,og 46 39 true (.callv (tm 40) [(tm 44),(tm 45)]),AZ 47 39 46 0]
 48 (tm 47),Aa 6 35,Aa 7 48]
def a7:aQ:=⟨49,(aoC cE [] (aoC cD Cx (aoC cC C3 (.seq (aoF 0 (.seq (aoC cB Cx (aoG 17 0)) (.block 1 (aoC cA C2 (aoC cz C4 (aoD 31 (.sreg cy Cx) (.sreg cx Cw))))))) (aoC cw CE .ret))))),[(.tmp 6),(.tmp 7)]⟩
attribute [push_cast] cE cD cC cB cA cz cy cx cw
theorem cr:aoH 155=aoI a7:=aoL
def eS:LSO:=[Al 2]
def eR:LSO:=[Aa 3 0,o1 4 (.slnil false (tm 3))]
def eQ:LSO:=[Al 2]
def eP:LSO:=[o1 5 (.bslice false 1 0 [] []),Aa 6 0,o1 7 (.app 2 1 16 [(.str [])] (tm 5) (tm 6)),Aa 2 7]
def a8:aQ:=⟨8,(aoC eS [] (.seq (aoC eR Cw (aoE 4 (.sreg eQ []))) (aoC eP Cy .ret))),[(.tmp 2)]⟩
attribute [push_cast] eS eR eQ eP
theorem ci:aZ Tryz.prog (λr i=>if r=3/\i=2 then 2 else 1) 51=some a8.raw:=aoL
attribute [push_cast] iL qz gx KF tP iQ cF aN a7 a8
set_option maxHeartbeats 8000000
set_option maxRecDepth 100000
def aeH(L:List Blk)(C:List AV)(n s:Nat)(v:AV):Prop:=(∃cap,v=.sl C n cap)\/∃i cp rest,v=.lsl i 0 n cp s/\L[i]?=some (.cells (C++rest))
def ak6(f:FuncId)(caps:List AV)(L:List Blk)(el:Nat->AV)(tg:AV)(n:Nat)(c:Nat->Int):Prop:=∀(h:Nat) (K:AV->List Blk->Prop),h<n->K (.int .i64 (c h)) L->alo f ([el h,tg]++caps) L K
theorem akT{f:FuncId}{n:Nat}{tg v:AV}{c:Nat->Int}(hn:n<=1100000)(hC:C.length=n*2)(hm:m<=n)(hrow:aeH L C n 2 v)(hf:ak6 f caps L (λh=>.agg ((C.drop (h*2)).take 2)) tg n c)(hc:∀h,h<n->(c h<0↔h<m))(h:K (.tup [.int .i64 (m:Nat),.bool (decide (m<n)&&decide (c m=0))]) L):
  alo 145 [v,tg,.func f caps] L K:=by
 replace h:=hid h;replace hf:=hid hf;replace hc:=hid hc;rcases hrow with⟨cap,rfl⟩|⟨bi,cp,rest,rfl,hL⟩;refine aln bM ?_;refine ah (λq T' L'=>∃a b:Nat,q=b-a/\a<=m/\m<=b/\b<=n/\T'=[(10,.int .i64 (b:Int)),(9,.int .i64 (a:Int)),(8,.int .i64 (n:Nat)),(0,.sl C n cap),(1,tg),(2,.func f caps)]/\L=L') (CutS (b:=alr _)) ⟨0,n,rfl,alw _,hm,alr _,rfl,rfl⟩ ?_;rintro _ _ L' ⟨a,b,rfl,ham,hmb,hb,rfl,e⟩;subst e;by_cases hlt:a<b;have g1:(a:Int)<(b:Int):=aoJ;obtain⟨z,hz⟩:∃z,z=(a+b)/2:=⟨_,rfl⟩;have g2:IntKind.i64.wrap ((a:Int)+b)=(a:Int)+b:=ad aoJ aoJ;have g3:IntKind.u64.wrap ((a:Int)+b)=(a:Int)+b:=xJ aoJ aoJ;have g4:Int.fdiv ((a:Int)+b) (2^(min 1 IntKind.u64.bits))=(z:Int):=by have:(2:Int)^(min 1 IntKind.u64.bits)=2:=(by decide);rw[this,aoi _ aoJ];omega
 have g5:IntKind.i64.wrap (z:Int)=z:=ad aoJ aoJ;have g6:=alm z aoJ;have g8:a<=z/\z<b:=aoJ;have g9:(z:Int)<(n:Int):=aoJ;have hzn:z<n:=aoJ;have hcz:=hc.o z hzn;have e2:z*2+2<=C.length:=aoJ;replace g8:=hid g8;replace hcz:=hid hcz;replace hC:=hid hC;clear hz;refine wk ?_;refine hf.o z _ hzn ?_;refine sk ?_;obtain⟨w,hw⟩:=alj (c z);rw[hw]at hcz;simp only[hw];by_cases hneg:w<0;have hzm:=hcz.o.1 hneg;clear hcz hw;have hg8:=g8.o;refine wk ?_;exact aoO aoJ aoM ⟨z+1,b,rfl,hzm,hmb,hb,rfl,rfl⟩;have hzm:m<=z:=by rcases alK z m with e|e;exact absurd (hcz.o.2 e) hneg;exact e
 clear hcz hw;have hg8:=g8.o;refine wk ?_;exact aoO aoJ aoM ⟨a,z,rfl,ham,hzm,aoJ,rfl,rfl⟩;obtain rfl:a=m:=aoJ;obtain rfl:b=a:=aoJ;have g1:¬(b:Int)<(b:Int):=aoJ;by_cases hbn:b<n;have g2:(b:Int)<(n:Int):=aoJ;have h':=h.o;rw[decide_eq_true hbn,aml]at h';obtain⟨w,hw⟩:=alj (c b);rw[hw]at h';replace h':=hid h';have e2:b*2+2<=C.length:=aoJ;replace hC:=hid hC;have kk1:Hid (∀{K:alp},K (.int .i64 w) L->alo f (AV.agg ((C.drop (b*2)).take 2)::tg::caps) L K):=hid λq=>hf.o b _ hbn (by rw[hw];exact q)
 refine wk ?_;exact aa h'.o;have g2:¬(b:Int)<(n:Int):=aoJ;have h':=h.o;rw[decide_eq_false hbn,amL]at h';replace h':=hid h';refine wk ?_;exact aa h'.o;refine aln bM ?_;refine ah (λq T' L'=>∃a b:Nat,q=b-a/\a<=m/\m<=b/\b<=n/\T'=[(10,.int .i64 (b:Int)),(9,.int .i64 (a:Int)),(8,.int .i64 (n:Nat)),(0,.lsl bi 0 n cp 2),(1,tg),(2,.func f caps)]/\L=L') (CutS (b:=alr _)) ⟨0,n,rfl,alw _,hm,alr _,rfl,rfl⟩ ?_;rintro _ _ L' ⟨a,b,rfl,ham,hmb,hb,rfl,e⟩;subst e;by_cases hlt:a<b;have g1:(a:Int)<(b:Int):=aoJ;obtain⟨z,hz⟩:∃z,z=(a+b)/2:=⟨_,rfl⟩;have g2:IntKind.i64.wrap ((a:Int)+b)=(a:Int)+b:=ad aoJ aoJ;have g3:IntKind.u64.wrap ((a:Int)+b)=(a:Int)+b:=xJ aoJ aoJ;have g4:Int.fdiv ((a:Int)+b) (2^(min 1 IntKind.u64.bits))=(z:Int):=by have:(2:Int)^(min 1 IntKind.u64.bits)=2:=(by decide);rw[this,aoi _ aoJ];omega
 have g5:IntKind.i64.wrap (z:Int)=z:=ad aoJ aoJ;have g6:=alm z aoJ;have g8:a<=z/\z<b:=aoJ;have g9:(z:Int)<(n:Int):=aoJ;have hzn:z<n:=aoJ;have hcz:=hc.o z hzn;have e1:((C++rest).drop (z*2)).take 2=(C.drop (z*2)).take 2:=by rw[List.drop_append_of_le_length aoJ,List.take_append_of_le_length (by simp;omega)]
 have e2:z*2+2<=C.length+rest.length:=aoJ;replace g8:=hid g8;replace hcz:=hid hcz;replace hC:=hid hC;clear hz;refine wk ?_;refine hf.o z _ hzn ?_;refine sk ?_;obtain⟨w,hw⟩:=alj (c z);rw[hw]at hcz;simp only[hw];by_cases hneg:w<0;have hzm:=hcz.o.1 hneg;clear hcz hw;have hg8:=g8.o;refine wk ?_;exact aoO aoJ aoM ⟨z+1,b,rfl,hzm,hmb,hb,rfl,rfl⟩;have hzm:m<=z:=by rcases alK z m with e|e;exact absurd (hcz.o.2 e) hneg;exact e
 clear hcz hw;have hg8:=g8.o;refine wk ?_;exact aoO aoJ aoM ⟨a,z,rfl,ham,hzm,aoJ,rfl,rfl⟩;obtain rfl:a=m:=aoJ;obtain rfl:b=a:=aoJ;have g1:¬(b:Int)<(b:Int):=aoJ;by_cases hbn:b<n;have g2:(b:Int)<(n:Int):=aoJ;have h':=h.o;rw[decide_eq_true hbn,aml]at h';obtain⟨w,hw⟩:=alj (c b);rw[hw]at h';replace h':=hid h';have e1:((C++rest).drop (b*2)).take 2=(C.drop (b*2)).take 2:=by rw[List.drop_append_of_le_length aoJ,List.take_append_of_le_length (by simp;omega)]
 have e2:b*2+2<=C.length+rest.length:=aoJ;replace hC:=hid hC;have kk1:Hid (∀{K:alp},K (.int .i64 w) L->alo f (AV.agg ((C.drop (b*2)).take 2)::tg::caps) L K):=hid λq=>hf.o b _ hbn (by rw[hw];exact q)
 refine wk ?_;exact aa h'.o;have g2:¬(b:Int)<(n:Int):=aoJ;have h':=h.o;rw[decide_eq_false hbn,amL]at h';replace h':=hid h';refine wk ?_;exact aa h'.o
theorem akS{f:FuncId}{n:Nat}{tg v:AV}{c:Nat->Int}(hn:n<=1100000)(hC:C.length=n*1)(hm:m<=n)(hrow:aeH L C n 1 v)(hf:ak6 f caps L (λh=>C.getD h .undef) tg n c)(hc:∀h,h<n->(c h<0↔h<m))(h:K (.tup [.int .i64 (m:Nat),.bool (decide (m<n)&&decide (c m=0))]) L):
  alo 155 [v,tg,.func f caps] L K:=by
 replace h:=hid h;replace hf:=hid hf;replace hc:=hid hc;rcases hrow with⟨cap,rfl⟩|⟨bi,cp,rest,rfl,hL⟩;refine aln cr ?_;refine ah (λq T' L'=>∃a b:Nat,q=b-a/\a<=m/\m<=b/\b<=n/\T'=[(10,.int .i64 (b:Int)),(9,.int .i64 (a:Int)),(8,.int .i64 (n:Nat)),(0,.sl C n cap),(1,tg),(2,.func f caps)]/\L=L') (CutS (b:=alr _)) ⟨0,n,rfl,alw _,hm,alr _,rfl,rfl⟩ ?_;rintro _ _ L' ⟨a,b,rfl,ham,hmb,hb,rfl,e⟩;subst e;by_cases hlt:a<b;have g1:(a:Int)<(b:Int):=aoJ;obtain⟨z,hz⟩:∃z,z=(a+b)/2:=⟨_,rfl⟩;have g2:IntKind.i64.wrap ((a:Int)+b)=(a:Int)+b:=ad aoJ aoJ;have g3:IntKind.u64.wrap ((a:Int)+b)=(a:Int)+b:=xJ aoJ aoJ;have g4:Int.fdiv ((a:Int)+b) (2^(min 1 IntKind.u64.bits))=(z:Int):=by have:(2:Int)^(min 1 IntKind.u64.bits)=2:=(by decide);rw[this,aoi _ aoJ];omega
 have g5:IntKind.i64.wrap (z:Int)=z:=ad aoJ aoJ;have g6:=alm z aoJ;have g8:a<=z/\z<b:=aoJ;have g9:(z:Int)<(n:Int):=aoJ;have hzn:z<n:=aoJ;have hcz:=hc.o z hzn;have e2:z<C.length:=aoJ;replace g8:=hid g8;replace hcz:=hid hcz;replace hC:=hid hC;clear hz;refine wk ?_;refine hf.o z _ hzn ?_;refine sk ?_;obtain⟨w,hw⟩:=alj (c z);rw[hw]at hcz;simp only[hw];by_cases hneg:w<0;have hzm:=hcz.o.1 hneg;clear hcz hw;have hg8:=g8.o;refine wk ?_;exact aoO aoJ aoM ⟨z+1,b,rfl,hzm,hmb,hb,rfl,rfl⟩;have hzm:m<=z:=by rcases alK z m with e|e;exact absurd (hcz.o.2 e) hneg;exact e
 clear hcz hw;have hg8:=g8.o;refine wk ?_;exact aoO aoJ aoM ⟨a,z,rfl,ham,hzm,aoJ,rfl,rfl⟩;obtain rfl:a=m:=aoJ;obtain rfl:b=a:=aoJ;have g1:¬(b:Int)<(b:Int):=aoJ;by_cases hbn:b<n;have g2:(b:Int)<(n:Int):=aoJ;have h':=h.o;rw[decide_eq_true hbn,aml]at h';obtain⟨w,hw⟩:=alj (c b);rw[hw]at h';replace h':=hid h';have e2:b<C.length:=aoJ;replace hC:=hid hC;have kk1:Hid (∀{K:alp},K (.int .i64 w) L->alo f (C.getD b .undef::tg::caps) L K):=hid λq=>hf.o b _ hbn (by rw[hw];exact q)
 refine wk ?_;exact aa h'.o;have g2:¬(b:Int)<(n:Int):=aoJ;have h':=h.o;rw[decide_eq_false hbn,amL]at h';replace h':=hid h';refine wk ?_;exact aa h'.o;refine aln cr ?_;refine ah (λq T' L'=>∃a b:Nat,q=b-a/\a<=m/\m<=b/\b<=n/\T'=[(10,.int .i64 (b:Int)),(9,.int .i64 (a:Int)),(8,.int .i64 (n:Nat)),(0,.lsl bi 0 n cp 1),(1,tg),(2,.func f caps)]/\L=L') (CutS (b:=alr _)) ⟨0,n,rfl,alw _,hm,alr _,rfl,rfl⟩ ?_;rintro _ _ L' ⟨a,b,rfl,ham,hmb,hb,rfl,e⟩;subst e;by_cases hlt:a<b;have g1:(a:Int)<(b:Int):=aoJ;obtain⟨z,hz⟩:∃z,z=(a+b)/2:=⟨_,rfl⟩;have g2:IntKind.i64.wrap ((a:Int)+b)=(a:Int)+b:=ad aoJ aoJ;have g3:IntKind.u64.wrap ((a:Int)+b)=(a:Int)+b:=xJ aoJ aoJ;have g4:Int.fdiv ((a:Int)+b) (2^(min 1 IntKind.u64.bits))=(z:Int):=by have:(2:Int)^(min 1 IntKind.u64.bits)=2:=(by decide);rw[this,aoi _ aoJ];omega
 have g5:IntKind.i64.wrap (z:Int)=z:=ad aoJ aoJ;have g6:=alm z aoJ;have g8:a<=z/\z<b:=aoJ;have g9:(z:Int)<(n:Int):=aoJ;have hzn:z<n:=aoJ;have hcz:=hc.o z hzn;have e1:(C++rest).getD z .undef=C.getD z .undef:=by rw[alR,aly aoJ];rfl
 have e2:z<C.length+rest.length:=aoJ;replace g8:=hid g8;replace hcz:=hid hcz;replace hC:=hid hC;clear hz;refine wk ?_;refine hf.o z _ hzn ?_;refine sk ?_;obtain⟨w,hw⟩:=alj (c z);rw[hw]at hcz;simp only[hw];by_cases hneg:w<0;have hzm:=hcz.o.1 hneg;clear hcz hw;have hg8:=g8.o;refine wk ?_;exact aoO aoJ aoM ⟨z+1,b,rfl,hzm,hmb,hb,rfl,rfl⟩;have hzm:m<=z:=by rcases alK z m with e|e;exact absurd (hcz.o.2 e) hneg;exact e
 clear hcz hw;have hg8:=g8.o;refine wk ?_;exact aoO aoJ aoM ⟨a,z,rfl,ham,hzm,aoJ,rfl,rfl⟩;obtain rfl:a=m:=aoJ;obtain rfl:b=a:=aoJ;have g1:¬(b:Int)<(b:Int):=aoJ;by_cases hbn:b<n;have g2:(b:Int)<(n:Int):=aoJ;have h':=h.o;rw[decide_eq_true hbn,aml]at h';obtain⟨w,hw⟩:=alj (c b);rw[hw]at h';replace h':=hid h';have e1:(C++rest).getD b .undef=C.getD b .undef:=by rw[alR,aly aoJ];rfl
 have e2:b<C.length+rest.length:=aoJ;replace hC:=hid hC;have kk1:Hid (∀{K:alp},K (.int .i64 w) L->alo f (C.getD b .undef::tg::caps) L K):=hid λq=>hf.o b _ hbn (by rw[hw];exact q)
 refine wk ?_;exact aa h'.o;have g2:¬(b:Int)<(n:Int):=aoJ;have h':=h.o;rw[decide_eq_false hbn,amL]at h';replace h':=hid h';refine wk ?_;exact aa h'.o
variable {L:List Blk}{K:alp}
theorem aev(h:K (.sl [] 0 (some 0)) L):alo 51 [.sl [] 0 cap] L K:=by
 refine ac ci (by simp[a8]) ?_;simp only[a8,am]
 repeat' first
  |refine bd ?_
  | (first|refine aV aoL ?_|refine aB aoL ?_|refine aE ?_|refine bJ ?_|refine bg (fun _=>?_)|refine ax ?_|refine aY ?_)
    refine sm ?_
  | (first|refine aO aoL ?_|refine aP ?_|refine aD ?_|refine aW ?_|refine bq (aw ?_))
    refine sl ?_
  |exact bh
  |first|apply bj|apply aR|apply bm|apply aS|apply bo|apply aT
  |refine aH ?_
  |refine aC ?_
  |first|refine aF rfl ?_|refine aG rfl ?_|refine ao rfl ?_ ?_|refine aJ rfl (λ_=>?_) (λ_=>?_)|refine aI rfl (λ_=>?_) (λ_=>?_)
  |((first|refine an (λ_=>?_) (λ_=>?_)|refine au (λ_=>?_) (λ_=>?_))<;>try refine sm ?_)
  |refine And.intro trivial ?_
  |refine And.intro aoJ ?_
  |refine aL rfl (λ_=>?_) (λ_=>?_)
  |refine And.intro ?_ ?_
 all_goals (first|refine ab rfl (Kto h ?_)|refine aa (Kto h ?_)|refine ab (by simp only[AV.refs,AV.refsL, *];rfl) (Kto h ?_)|refine bu (ab rfl (Kto h ?_))|(trace_state;fail))
 all_goals (first|(simp[*];done)|(simp[*];omega)|(simp[*];intros;omega)|(simp_all[Hid,Hid];done)|(simp_all[Hid,Hid];omega))
theorem ag7{xs:List (List UInt8)}(h0:xs.length≠0)(hn:xs.length<=1100000)(h:K (.lsl L.length 0 xs.length none 1) (L++[.cells (xs.map AV.str)])):
  alo 51 [.sl (xs.map AV.str) xs.length cap] L K:=by
 have h1:=afM xs;refine aln ci ?_;refine UU L.length (.cells (xs.map AV.str)) rfl (alr _) aoK (by simp[AV.refs]) (iX _ _) ?_;simpa[AV.ren]using h
abbrev bv(s:List UInt8):Prop:=(s.length:Int)<=140737488351232
theorem aaA(a b:List UInt8):Lib.compareBytes a b<0↔a<b:=by rw[YV];by_cases h:a<b;simp[h];by_cases h2:b<a<;>simp[h,h2]
theorem X5(a b:List UInt8):Lib.compareBytes a b=0↔a=b:=by rw[YV];by_cases h:a<b;simp only[h,if_true];exact⟨λe=>aoJ,λe=>by subst e;exact absurd h (amz _)⟩;by_cases h2:b<a;simp only[h,h2,if_true,if_false];exact⟨λe=>aoJ,λe=>by subst e;exact absurd h2 (amz _)⟩;simp only[h,h2,if_false,true_iff];exact aoj (amR.1 h2) (amR.1 h)
def ajo(w:AV):Prop:=(∃l n cap,w=.sl l n cap)\/∃i off n cp s,w=.lsl i off n cp s
theorem afG{w:AV}(hx:bv x)(hw:ajo w)(h:K (.int .i64 (Lib.compareBytes (af x) n)) L):
  alo 146 [.agg [.str x,w],.str n] L K:=by
 replace h:=hid h;rcases hw with⟨l,m,cap,rfl⟩|⟨i,off,m,cp,s,rfl⟩;refine ac su (by simp[fU]) ?_;simp only[fU,am];have kk1:=@aoQ _ _ _ _ (fv hx);have kk2:=@hid _ @rG;refine wk ?_;exact ab rfl h.o;refine ac su (by simp[fU]) ?_;simp only[fU,am];have kk1:=@aoQ _ _ _ _ (fv hx);have kk2:=@hid _ @rG;refine wk ?_;exact ab rfl h.o
def ak7(l:List Atr)(C:List AV):Prop:=C.length=l.length*2/\∀h:Nat,h<l.length->∃w,ajo w/\(C.drop (h*2)).take 2=[.str (l.getD h ([],[])).1,w]
def YP{α:Type}(key:α->List UInt8)(l:List α)(k:List UInt8):Bool:=l.any λa=>decide (key a=k)
theorem VP{α:Type}{key:α->List UInt8}{l:List α}{k:List UInt8}(hr:gT key l){d:α}:YP key l k=(decide (f9 key l k<l.length)&&decide (key (l.getD (f9 key l k) d)=k)):=by rw[YP,aeu hr];by_cases hc:f9 key l k<l.length;rw[alH hc,decide_eq_true hc,aml];simp[hc];rw[amI aoJ,decide_eq_false hc];rfl
theorem acx{l:List Atr}{v:AV}(hl:l.length<=1100000)(hC:ak7 l C)(hrow:aeH L C l.length 2 v)(hr:gT dS l)(hn:bv n)(hz:∀a∈l,bv a.1)(h:K (.tup [.int .i64 (f9 dS l (af n):Nat),.bool (YP dS l (af n))]) L):
  alo 103 [v,.str n] L K:=by
 have hbs:∀{K:alp},K (.tup [.int .i64 (f9 dS l (af n):Nat),.bool (YP dS l (af n))]) L->alo 145 [v,.str (af n),.func 146 []] L K:=λ{K} q=>by refine akT (m:=f9 dS l (af n)) (c:=λh=>Lib.compareBytes (dS (l.getD h ([],[]))) (af n)) hl hC.1 (YU _ _ _) hrow (λh K hh hk=>?_) (λh hh=>?_) ?_;obtain⟨w,hw,e⟩:=hC.2 h hh;simp only[e];refine afG (hz _ ?_) hw hk;simp[hh];simp only[aaA];have:=abZ (key:=dS) (k:=af n) hr h hh;simpa[hh]using this;have:=VP (key:=dS) (k:=af n) hr (d:=([],[]));rw[this]at q;simpa only[X5]using q
 replace hbs:=@hid _ @hbs;replace h:=hid h;rcases hrow with⟨cap,rfl⟩|⟨bi,cp,rest,rfl,hL⟩;refine ac xF (by simp[iM]) ?_;simp only[iM,am];have kk2:=@hid _ @hbs.o;have kk1:=@aoQ _ _ _ _ (fv hn);refine wk ?_;exact aa h.o;refine ac xF (by simp[iM]) ?_;simp only[iM,am];have kk2:=@hid _ @hbs.o;have kk1:=@aoQ _ _ _ _ (fv hn);refine wk ?_;exact aa h.o
abbrev tyC(ty:Typ):List AV:=[.str ty.1,.int .i64 ty.2.1,.bool ty.2.2.1,.bool ty.2.2.2]
theorem aek(hp:L[p]?=some (.cells (tyC ty)))(h:K (.int .i64 (Lib.compareBytes (eF ty.2.1 x) n)) L):
  alo 156 [.str x,.str n,.ptr p 0] L K:=by
 unfold eF at h;refine aln PI ?_;refine eg ?_;rcases hm:bw ty.2.1 x with _|m
 all_goals rw[hm]at h
 replace h:Hid (K (.int .i64 (Lib.compareBytes [] n)) L):=hid h;simp only[iC];refine sk ?_;have kk1:=@hid _ @rG;refine wk ?_;exact aa h.o;replace h:Hid (K (.int .i64 (Lib.compareBytes m n)) L):=hid h;simp only[iC];refine sk ?_;have kk1:=@hid _ @rG;refine wk ?_;exact aa h.o
def ahQ(syn:Int)(l:List (List UInt8))(v:List UInt8):AV:=match bw syn v with
 |none=>.tup [.int .i64 0,.bool false,.bool false]
 |some n=>.tup [.int .i64 (f9 (eF syn) l n:Nat),.bool (YP (eF syn) l n),.bool true]
theorem agS{l:List (List UInt8)}{w:AV}(hl:l.length<=1100000)(hrow:aeH L (l.map AV.str) l.length 1 w)(hr:gT (eF ty.2.1) l)(h:K (ahQ ty.2.1 l v) L):
  alo 119 [.agg (tyC ty),w,.str v] L K:=by
 have hbs:∀(X:List Blk) (n:List UInt8){K:alp},K (.tup [.int .i64 (f9 (eF ty.2.1) l n:Nat),.bool (YP (eF ty.2.1) l n)]) (L++(.cells (tyC ty)::X))->alo 155 [w,.str n,.func 156 [.ptr L.length 0]] (L++(.cells (tyC ty)::X)) K:=λX n {K} q=>by
  have hrow':aeH (L++(.cells (tyC ty)::X)) (l.map AV.str) l.length 1 w:=by rcases hrow with⟨cap,rfl⟩|⟨bi,cp,rest,rfl,hL⟩;exact .inl ⟨cap,rfl⟩;exact .inr ⟨bi,cp,rest,rfl,alk hL⟩
  refine akS (m:=f9 (eF ty.2.1) l n) (c:=λh=>Lib.compareBytes (eF ty.2.1 (l.getD h [])) n) hl aoK (YU _ _ _) hrow' (λh K hh hk=>?_) (λh hh=>?_) ?_;have e:(l.map AV.str).getD h .undef=.str (l.getD h []):=(by simp[hh]);simp only[e];exact aek (by rw[alT (alr _),amK];rfl) hk;simp only[aaA];have:=abZ (key:=eF ty.2.1) (k:=n) hr h hh;simpa[hh]using this;have:=VP (key:=eF ty.2.1) (k:=n) hr (d:=[]);rw[this]at q;simpa only[X5]using q
 replace hbs:=@hid _ @hbs;unfold ahQ at h;rcases hrow with⟨cap,rfl⟩|⟨bi,cp,rest,rfl,hL⟩;refine aln xE ?_;refine eg ?_;rcases hn:bw ty.2.1 v with _|n;rw[hn]at h;simp only at h;replace h:=hid h;simp only[iC];refine aoR ?_;exact ab rfl h.o;rw[hn]at h;simp only at h;replace h:=hid h;simp only[iC];refine aoR ?_;refine hbs.o [] n ?_;refine aoR ?_;exact ab rfl h.o;refine aln xE ?_;refine eg ?_;rcases hn:bw ty.2.1 v with _|n;rw[hn]at h;simp only at h;replace h:=hid h;simp only[iC];refine aoR ?_;exact ab rfl h.o;rw[hn]at h;simp only at h;replace h:=hid h;simp only[iC];refine aoR ?_;refine hbs.o [] n ?_;refine aoR ?_;exact ab rfl h.o
def cj(ts:List Typ):List AV:=ts.flatMap tyC
theorem PY(ts:List Typ):(cj ts).length=ts.length*4:=by
 induction ts with
 |nil=>rfl
 |cons a l ih=>simp only[cj,amv,alJ,tyC,alA,amg]at ih⊢;omega
abbrev qm:Typ:=([],0,false,false)
theorem KV:∀{ts:List Typ}{k:Nat},k<ts.length->((cj ts).drop (k*4)).take 4=tyC (ts.getD k qm)
 |a::l,0,_=>rfl
 |a::l,k+1,h=>by have ih:=@KV l k (by simpa using h);rw[show(k+1)*4=k*4+1+1+1+1 by omega];simpa[cj,tyC]using ih
theorem ajR{a b:List UInt8}(ha:bv a)(hb:bv b)(h:K (.bool (decide (af a=af b))) L):alo 144 [.str a,.str b] L K:=by replace h:=hid h;refine ac S4 (by simp[tO]) ?_;simp only[tO,am];have kk1:=@aoQ _ _ _ _ (fv ha);have kk2:=@aoQ _ _ _ _ (fv hb);refine wk ?_;exact aa h.o
theorem ait(ha:bv ty.1)(hn:bv n)(hp:L[p]?=some (.cells [.str n]))(h:K (.bool (decide (af ty.1=af n))) L):
  alo 143 [.agg (tyC ty),.ptr p 0] L K:=by
 replace h:=hid h;have hp2:∀X:List Blk,(L++X)[p]?=some (.cells [.str n]):=λX=>by rw[aly (alq.1 hp).1];exact hp
 refine ac xC (by simp[gv]) ?_;simp only[gv,am];have kk1:=@aoQ _ _ _ _ (ajR ha hn);refine wk ?_;exact ab rfl h.o
theorem ajY{f:FuncId}{q:Typ->Bool}(hn:ts.length<=1100000)(hf:∀(ty:Typ) (K:AV->List Blk->Prop),ty∈ts->K (.bool (q ty)) L->alo f (.agg (tyC ty)::caps) L K)(h1:(∀ty∈ts,q ty=false)->K (.int .i64 (-1)) L)(h2:∀k:Nat,k<ts.length->(∀j,j<k->q (ts.getD j qm)=false)->q (ts.getD k qm)=true->K (.int .i64 k) L):
  alo 142 [.sl (cj ts) ts.length cap,.func f caps] L K:=by
 replace hf:=hid hf;replace h1:=hid h1;replace h2:=hid h2;refine aln gc ?_;refine ah (λn T' L'=>∃k:Nat,n=ts.length-k/\k<=ts.length/\T'=[(8,.int .i64 (k:Int)),(7,.int .i64 ts.length),(0,.sl (cj ts) ts.length cap),(1,.func f caps)]/\L=L' /\
  ∀j,j<k->q (ts.getD j qm)=false) (CutS (b:=alr _)) ⟨0,rfl,alw _,rfl,rfl,aoK⟩ ?_
 rintro _ _ L' ⟨k,rfl,hk,rfl,e,hr⟩;subst e;replace hr:=hid hr;by_cases hlt:k<ts.length;have g1:(k:Int)<(ts.length:Int):=aoJ;have g2:=alm k aoJ;have e4:k*4+4<=(cj ts).length:=by rw[PY];omega
 have e3:=KV hlt;obtain⟨ty,hty⟩:=alj (ts.getD k qm);have hm:ty∈ts:=by rw[<- hty];simp[hlt]
 rw[hty]at e3;replace hty:=hid hty;rcases hqk:q ty with _|_;have kk1:Hid (∀{K:alp},K (.bool false) L->alo f (.agg (tyC ty)::caps) L K):=hid λa=>hf.o ty _ hm (by rw[hqk];exact a)
 replace hqk:=hid hqk;simp only[tyC]at kk1 e3;refine wk ?_;refine aoO aoJ aoM ⟨k+1,rfl,hlt,rfl,rfl,λj hj=>?_⟩;rcases alK j k with h|h;exact hr.o j h;have:j=k:=aoJ;subst this;rw[hty.o];exact hqk.o;have kk1:Hid (∀{K:alp},K (.bool true) L->alo f (.agg (tyC ty)::caps) L K):=hid λa=>hf.o ty _ hm (by rw[hqk];exact a)
 replace hqk:=hid hqk;simp only[tyC]at kk1 e3;refine wk ?_;exact aa (h2.o k hlt hr.o (by rw[hty.o];exact hqk.o));have g1:¬(k:Int)<(ts.length:Int):=aoJ;refine wk ?_;refine aa (h1.o λty hty=>?_);obtain⟨j,hj,e⟩:=amJ.1 hty;have:=hr.o j aoJ;simpa[hj,e]using this
def Ki(o:Option Typ):AV:=.tup [.agg (tyC (o.getD qm)),.bool o.isSome]
theorem Pt{α:Type}{q:α->Bool}{d:α}:∀{l:List α}{k:Nat},k<l.length->(∀j,j<k->q (l.getD j d)=false)->q (l.getD k d)=true->l.find? q=some (l.getD k d)
 |a::t,0,_,_,h=>by simp only[amy]at h⊢;rw[amF,h]
 |a::t,k+1,hk,hp,h=>by have h0:=hp 0 aoJ;simp only[amy]at h0;rw[amF,h0];simp only[ana]at h⊢;exact Pt (by simpa using hk) (λj hj=>by simpa using hp (j+1) aoJ) h
theorem ajS(hl:ts.length<=1100000)(hts:∀t∈ts,bv t.1)(hn:bv n)(h:K (Ki (ez ts n)) L):
  alo 102 [.agg [.sl (cj ts) ts.length capT,.sl c2 n2 cap2],.str n] L K:=by
 replace h:=hid h;refine aln Gc ?_;refine ajY (q:=λt=>decide (af t.1=af n)) hl (λty K hm hk=>?_) (λhno=>?_) (λk hk hp hq=>?_);exact ait (hts ty hm) hn aoK hk;have e:ez ts n=none:=aok.2 λt ht=>by simpa using hno t ht
 rw[e]at h;simp only[Ki,anB,amO,tyC]at h;refine aoR ?_;exact ab rfl h.o;have e:ez ts n=some (ts.getD k qm):=Pt (d:=qm) hk hp hq;have e4:k*4+4<=(cj ts).length:=by rw[PY];omega
 have e3:=KV hk;have g1:¬(k:Int)<0:=aoJ;have g2:(k:Int)<(ts.length:Int):=aoJ;obtain⟨ty,hty⟩:=alj (ts.getD k qm);rw[hty]at e e3;rw[e]at h;simp only[Ki,amj,amQ,tyC]at h e3;clear hp hq hty e;refine aoR ?_;exact ab rfl h.o
theorem abU(hl:ts.length<=1100000)(hts:∀t∈ts,bv t.1)(hn:bv n)(h:K (Ki (ez ts n)) L):
  alo 49 [.agg [.sl (cj ts) ts.length capT,.sl c2 n2 cap2],.str n] L K:=by
 unfold Ki at h;refine aln S5 ?_;refine ajS hl hts hn ?_;unfold Ki;obtain⟨ty,hty⟩:=alj ((ez ts n).getD qm);obtain⟨b,hb⟩:=alj ((ez ts n).isSome);rw[hty,hb]at h⊢;replace h:=hid h;refine aoR ?_;exact ab rfl h.o
abbrev PAt:=Nat×Atr
variable {ps:List PAt}
abbrev pC(q:PAt):List AV:=[.str q.2.1,.lsl q.1 0 q.2.2.length none 1]
def psC(ps:List PAt):List AV:=ps.flatMap pC
abbrev noP:PAt:=(0,[],[])
def WH(L:List Blk)(b p:Nat)(s1 s2:AV)(ps:List PAt):Prop :=
 b<=p/\(ps.map (·.1)).Nodup/\(∀q∈ps,b<=q.1/\q.1≠p/\∃rest,L[q.1]?=some (.cells (q.2.2.map AV.str++rest))) /\
 ((L[p]?=some (.cells [s1,s2,.sl [] 0 (some 0)])/\ps=[])\/∃r rest,L[p]?=some (.cells [s1,s2,.lsl r 0 ps.length none 2])/\L[r]?=some (.cells (psC ps++rest))/\b<=r/\r≠p/\∀q∈ps,q.1≠r)
theorem WH.row(h:WH L b p s1 s2 ps):∃row,L[p]?=some (.cells [s1,s2,row])/\aeH L (psC ps) ps.length 2 row/\(row=.sl [] 0 (some 0)/\ps=[]\/∃r rest,row=.lsl r 0 ps.length none 2/\L[r]?=some (.cells (psC ps++rest))/\b<=r/\r≠p/\∀q∈ps,q.1≠r):=by obtain⟨_,_,_,h4⟩:=h;rcases h4 with⟨h1,rfl⟩|⟨r,rest,h1,h2,h3⟩;exact⟨_,h1,.inl ⟨some 0,rfl⟩,.inl ⟨rfl,rfl⟩⟩;exact⟨_,h1,.inr ⟨r,none,rest,rfl,h2⟩,.inr ⟨r,rest,rfl,h2,h3⟩⟩
def Kpt(b:Nat)(L L':List Blk):Prop:=b<=L'.length/\∀k,k<b->L'[k]?=L[k]?
theorem Kpt.trans{L1:List Blk}(h:Kpt b L L1)(k:Kpt b L1 L2):Kpt b L L2:=⟨k.1,λi hi=>(k.2 i hi).trans (h.2 i hi)⟩
theorem Kpt.app(h:b<=L.length)(X:List Blk):Kpt b L (L++X):=⟨by simp;omega,λk hk=>by rw[aly aoJ]⟩
theorem Kpt.eq(h:Kpt b L L')(hb:b=L.length):∃X,L'=L++X:=by refine⟨L'.drop L.length,?_⟩;apply amW;intro i;rw[amD];split;rename_i hi;rw[h.2 i aoJ];rw[amo];congr 1;omega
theorem ach{l:List Atr}(hr:gT dS l):cc l n=if YP dS l (af n)=true then(l.getD (f9 dS l (af n)) ([],[])).2 else[]:=by rw[Yj n l hr,VP hr (d:=([],[]))];by_cases hc:f9 dS l (af n)<l.length;rw[alH hc];simp[hc];rw[amI aoJ];simp[hc]
theorem aeF{single:Bool}{l:List (List UInt8)}{vs:List (List UInt8)}(h:bw syn v=none):fD syn single l (v::vs)=([],21):=by rw[fD,h]
theorem aeE{single:Bool}{l:List (List UInt8)}{vs:List (List UInt8)}(h:bw syn v=some n):fD syn single l (v::vs)=if inM syn l n=true then([],20)else fD syn single (iD syn v false l) vs:=by rw[fD,h]
theorem WH.frame(h:WH L b p s1 s2 ps)(hf:∀k,k<L.length->L'[k]?=L[k]?):WH L' b p s1 s2 ps:=by
 have up:∀(i:Nat) (k:Blk),L[i]?=some k->L'[i]?=some k:=λi k hk=>by rw[hf i (alq.1 hk).1];exact hk
 obtain⟨h1,h2,h3,h4⟩:=h;refine⟨h1,h2,λq hq=>?_,?_⟩;obtain⟨a,c,rest,d⟩:=h3 q hq;exact⟨a,c,rest,up _ _ d⟩;rcases h4 with⟨a,c⟩|⟨r,rest,a,c,d⟩;exact .inl ⟨up _ _ a,c⟩;exact .inr ⟨r,rest,up _ _ a,up _ _ c,d⟩
theorem adM{l:List Nat}{x:Nat}(h:l.Nodup)(hx:∀i:Nat,i≠c->l[i]?≠some x):(l.set c x).Nodup:=by rw[List.nodup_iff_pairwise_ne,aol]at h⊢;intro i j hi hj hij;simp only[aom]at hi hj;rw[List.getElem_set,List.getElem_set];split;rename_i e1;rw[if_neg aoJ];intro e;exact hx j aoJ (by rw[alH hj,e]);split;intro e;exact hx i aoJ (by rw[alH hi,<- e]);exact h i j hi hj hij
theorem T6{α:Type}{l:List α}{x q:α}(h:q∈l.set c x):q=x\/∃i,i≠c/\l[i]?=some q:=by obtain⟨i,hi⟩:=ang.1 h;rw[alO]at hi;split at hi;split at hi;cases hi;exact .inl rfl;cases hi;rename_i e;exact .inr ⟨i,λe'=>e e'.symm,hi⟩
theorem acK(h:(ps.map (·.1)).Nodup){i:Nat}{q a:PAt}(hi:ps[i]?=some q)(hc:ps[c]?=some a)(hne:i≠c):q.1≠a.1:=λe=>by obtain⟨h1,rfl⟩:=alq.1 hi;obtain⟨h2,rfl⟩:=alq.1 hc;rw[List.nodup_iff_pairwise_ne,aol]at h;rcases Nat.lt_or_gt_of_ne hne with h3|h3;exact h i c (by simpa using h1) (by simpa using h2) h3 (by simpa using e);exact h c i (by simpa using h2) (by simpa using h1) h3 (by simpa using e.symm)
theorem WH.vals{j:Nat}{u:List (List UInt8)}{rest:List AV}(h:WH L b p s1 s2 ps)(hc:c<ps.length){l0 jat:Nat}(hl0:L.length<=l0)(hjat:jat=(ps.getD c noP).1)(hfr:∀k,k<l0->k≠jat->L'[k]?=L[k]?\/L.length<=k)(hj:j=jat\/l0<=j)(hLj:L'[j]?=some (.cells (u.map AV.str++rest))){r:Nat}{rest2:List AV}(hLp:L[p]?=some (.cells [s1,s2,.lsl r 0 ps.length none 2]))(hLr:L[r]?=some (.cells (psC ps++rest2)))(hbr:b<=r)(hrp:r≠p)(hqr:∀q∈ps,q.1≠r)(h2:L2=L'.set r (.cells (psC (ps.set c (j,(ps.getD c noP).2.1,u))++rest2))):WH L2 b p s1 s2 (ps.set c (j,(ps.getD c noP).2.1,u)):=by
 obtain⟨g1,g2,g3,g4⟩:=h;have hcg:ps[c]?=some (ps.getD c noP):=by simp[hc]
 have hm:ps.getD c noP∈ps:=al8 hcg;have lt:∀(i:Nat) (k:Blk),L[i]?=some k->i<L.length:=λi k hk=>(alq.1 hk).1
 obtain⟨m1,m2,mr,m3⟩:=g3 _ hm;rw[<- hjat]at m1 m2 m3;have hjl:=lt _ _ m3;have hrl:=lt _ _ hLr;have hpl:=lt _ _ hLp;have keep:∀k,k<L.length->k≠jat->k≠r->L2[k]?=L[k]?:=λk hk hkj hkr=>by rw[h2,alP (Ne.symm hkr)];rcases hfr k aoJ hkj with e|e;exact e;omega
 have hrj:r≠jat:=by rw[hjat];exact(hqr _ hm).symm
 have hjr:j≠r:=by rcases hj with e|e<;>omega
 have hrl':r<L'.length:=by rcases hfr r aoJ hrj with e|e;rw[hLr]at e;exact(alq.1 e).1;omega
 refine⟨g1,?_,λq hq=>?_,.inr ⟨r,rest2,?_,?_,hbr,hrp,λq hq=>?_⟩⟩;rw[List.map_set];refine adM g2 λi hi e=>?_
 rw[amc,alS]at e;obtain⟨q,e1,e2⟩:=e;have:=acK g2 e1 hcg hi;rw[<- hjat]at this;obtain⟨_,_,_,q3⟩:=g3 q (al8 e1);have:=lt _ _ q3;omega;rcases T6 hq with rfl|⟨i,hi,e⟩;refine⟨by simp only;omega,?_,rest,?_⟩;simp only;rcases hj with e|e;rw[e];exact m2;omega;simp only;rw[h2,alP (Ne.symm hjr)];exact hLj;obtain⟨q1,q2,qr,q3⟩:=g3 q (al8 e);have hne:=acK g2 e hcg hi;rw[<- hjat]at hne;refine⟨q1,q2,qr,?_⟩;rw[keep _ (lt _ _ q3) hne (hqr q (al8 e))];exact q3;rw[keep p hpl (λe=>m2 e.symm) (Ne.symm hrp),aom];exact hLp;rw[h2];simp[hrl'];rcases T6 hq with rfl|⟨i,hi,e⟩;exact hjr;exact hqr q (al8 e)
theorem WH.more{j r:Nat}{u:List (List UInt8)}{rest:List AV}(h:WH L b p s1 s2 ps)(hc:c<=ps.length)(hkeep:∀q∈ps,L2[q.1]?=L[q.1]?)(hjb:b<=j)(hjp:j≠p)(hjq:∀q∈ps,q.1≠j)(hLj:L2[j]?=some (.cells (u.map AV.str++rest)))(hLp:L2[p]?=some (.cells [s1,s2,.lsl r 0 (ps.length+1) none 2]))(hLr:L2[r]?=some (.cells (psC (ps.take c++(j,n,u)::ps.drop c))))(hbr:b<=r)(hrp:r≠p)(hrj:j≠r)(hqr:∀q∈ps,q.1≠r):
  WH L2 b p s1 s2 (ps.take c++(j,n,u)::ps.drop c):=by
 obtain⟨g1,g2,g3,g4⟩:=h;have hperm:(ps.take c++(j,n,u)::ps.drop c).Perm ((j,n,u)::ps):=Vh ps c _;refine⟨g1,?_,λq hq=>?_,.inr ⟨r,[],?_,by rw[alY];exact hLr,hbr,hrp,λq hq=>?_⟩⟩;refine((hperm.map (·.1)).nodup_iff).2 ?_;simp only[alD,amm];refine⟨λhm=>?_,g2⟩;obtain⟨q,hq,e⟩:=alt.1 hm;exact hjq q hq e;rcases K1.1 hq with rfl|hq;exact⟨hjb,hjp,rest,hLj⟩;obtain⟨q1,q2,qr,q3⟩:=g3 q hq;exact⟨q1,q2,qr,by rw[hkeep q hq];exact q3⟩;have:(ps.take c++(j,n,u)::ps.drop c).length=ps.length+1:=by simpa using hperm.length_eq
 rw[this];exact hLp;rcases K1.1 hq with rfl|hq;exact hrj;exact hqr q hq
def ahi(ts:List Typ):Prop:=ts.length<=1100000/\(∀ty∈ts,bv ty.1)/\∀ty∈ts,ez ts ty.1=some ty
theorem U1{n:List UInt8}{vs:List (List UInt8)}{a:Atr}:∀{d:Bool}{l:List Atr},a∈rE n vs d l->a=(n,vs)\/a∈l
 | d,[],h=>by
   rw[rE]at h;split at h
   .cases h
   .simp at h;exact .inl h
 | d,x::t,h=>by
   rw[rE,alv,alv]at h;rcases h with(h|h)|h
   .split at h
    .simp at h;exact .inl h
    .cases h
   .split at h
    .simp at h;exact .inr (by simp[h])
    .cases h
   .rcases U1 h with e|e
    .exact .inl e
    .exact .inr (by simp[e])
theorem Yl{n:List UInt8}{vs:List (List UInt8)}:∀{d:Bool}{l:List Atr},(rE n vs d l).length<=l.length+(if d=true then 0 else 1)
 |d,[]=>by rw[rE];split<;>simp
 | d,x::t=>by
   have ih:=@Yl n vs (d || !decide (af x.1<af n)) t;rw[rE];simp only[alJ,alA];have h1:(if af n≠af x.1 then[x]else[]).length<=1:=(by split<;>simp);obtain⟨z,hz⟩:=alj ((if af n≠af x.1 then[x]else[]).length);rw[hz]at h1⊢;cases d with
   | true =>
     simp only[amC,false_and,if_false,amg,anr,if_true]at ih⊢;omega
   | false =>
     by_cases hx:af x.1<af n
     .simp only[hx,decide_true,am0,Bool.or_self,alG,if_false]at ih⊢;simp;omega
     .simp only[hx,decide_false,anh,anY,if_true]at ih⊢;simp;omega
theorem agr{l:List Atr}{a:Atr}(h:InA ts l)(ha:a∈l)(ht:ez ts ty.1=some ty)(e:af a.1=af ty.1):a.1=ty.1/\InV ty.2.1 a.2:=by obtain⟨ty',h1,h2,h3,h4,h5⟩:=h.2 a ha;rw[Ss e,ht]at h1;cases h1;exact⟨h2.symm,h4⟩
theorem XO{l:List Atr}{a:Atr}(hts:ahi ts)(h:InA ts l)(ha:a∈l):bv a.1/\a.2≠[]:=by obtain⟨ty',h1,h2,h3,_⟩:=h.2 a ha;exact⟨by rw[<- h2];exact hts.2.1 _ (KW h1).1,h3⟩
theorem aaV{l:List Atr}(h:∀a∈l,a.2.length<=m):(cc l n).length<=m:=by
 induction l with
 |nil=>simp[cc]
 | cons a l ih =>
   rw[cc];split
   .exact h a aoK
   .exact ih λb hb=>h b (by simp[hb])
theorem aaG(l:List Atr):ak7 l (bc l):=by exact⟨iN l,λh hh=>⟨F9 (l.getD h ([],[])).2,.inl ⟨_,_,_,rfl⟩,oO hh⟩⟩
theorem abV{l:List Atr}(hl:l.length<=1100000)(hr:gT dS l)(hz:∀a∈l,bv a.1/\a.2.length<=1100000)(hn:bv n)(h:K (F9 (cc l n)) L):
  alo 52 [.sl (bc l) l.length cap,.str n] L K:=by
 obtain⟨c,hc⟩:=alj (f9 dS l (af n));obtain⟨fd,hfd⟩:=alj (YP dS l (af n));have hv:=ach (n:=n) hr;rw[hfd,hc]at hv;rw[hv]at h;have hpc:∀{K:alp},K (.tup [.int .i64 c,.bool fd]) L->alo 103 [.sl (bc l) l.length cap,.str n] L K:=λ{K} q =>
  acx hl (aaG l) (.inl ⟨cap,rfl⟩) hr hn (λa ha=>(hz a ha).1) (by rw[hc,hfd];exact q)
 have kk1:=@hid _ @hpc;clear hpc;rcases fd with _|_;rw[if_neg aoK]at h;replace h:=hid h;refine aln sv ?_;exact bu (aa h.o);rw[if_pos rfl]at h;have h0:=VP (key:=dS) (k:=af n) hr (d:=([],[]));rw[hfd,hc]at h0;have h1:c<l.length:=by simpa using((alx _ _).mp h0.symm).1
 have e5:=aaF h1;have hm:l.getD c ([],[])∈l:=by simp[h1]
 have hln:=(hz _ hm).2;obtain⟨vs,hvs⟩:=alj ((l.getD c ([],[])).2);rw[hvs]at h e5 hln;have e6:(c:Int)<(l.length:Int):=aoJ;have e7:c*2+1<(bc l).length:=by rw[iN];omega
 replace h:=hid h;clear h0 hm hvs hv hfd hc;by_cases h2:vs.length=0;obtain rfl:vs=[]:=by simpa using h2
 refine ac sv (by simp[gx]) ?_;simp only[gx,am];have kk2:=@aoQ _ _ _ _ (aev (cap:=none));refine wk ?_;exact bu (aa h.o);refine ac sv (by simp[gx]) ?_;simp only[gx,am];have kk2:=@hid _ (λL K=>ag7 (cap:=none) (L:=L) (K:=K) h2 hln);refine wk ?_;refine KN (i:=L.length) (l:=vs.map AV.str) (by rw[alT (alr _),amK];rfl) ?_;have e8:((vs.map AV.str).drop 0).take (vs.length*1)=vs.map AV.str:=by rw[ans,Nat.mul_one,ams aoK]
 simp only[AV.snap,if_true,e8];rw[amd _ _ (alr _)];refine ab ?_ h.o;simp only[AV.refs,iX]
def abD(ts:List Typ)(l:List Atr)(n v:List UInt8):Bool:=match ez ts n with
 |none=>false
 | some ty=>match bw ty.2.1 v with
   |none=>false
   |some m=>inM ty.2.1 (cc l n) m
theorem aj7{l:List Atr}(hts:ahi ts)(hin:InA ts l)(hl:l.length<=1100000)(hz:∀a∈l,a.2.length<=1100000)(hn:bv n)(h:K (.bool (abD ts l n v)) L):
  alo 75 [.agg [.sl (cj ts) ts.length capT,.sl c2 n2 cap2],.sl (bc l) l.length cap,.str n,.str v] L K:=by
 have hr:=hin.1;obtain⟨c,hc⟩:=alj (f9 dS l (af n));obtain⟨fd,hfd⟩:=alj (YP dS l (af n));have hv:=ach (n:=n) hr;rw[hfd,hc]at hv;unfold abD at h;rw[hv]at h;have hpc:∀(X:List Blk){K:alp},K (.tup [.int .i64 c,.bool fd]) (L++X)->alo 103 [.sl (bc l) l.length cap,.str n] (L++X) K:=λX {K} q =>
  acx hl (aaG l) (.inl ⟨cap,rfl⟩) hr hn (λa ha=>(XO hts hin ha).1) (by rw[hc,hfd];exact q)
 have hfind:∀(X:List Blk){K:alp},K (Ki (ez ts n)) (L++X)->alo 49 [.agg [.sl (cj ts) ts.length capT,.sl c2 n2 cap2],.str n] (L++X) K:=λX {K} q=>abU hts.1 hts.2.1 hn q
 replace hpc:=@hid _ @hpc;replace hfind:=@hid _ @hfind;refine aln Wl ?_;refine hfind.o _ ?_;unfold Ki;rcases hty:ez ts n with _|ty;rw[hty]at h;replace h:=hid h;simp only[anB,amO,tyC];clear hty hv hc hfd;refine aoR ?_;refine hpc.o _ ?_;refine aoR ?_;exact ab rfl h.o;rw[hty]at h;simp only at h;simp only[amj,amQ,tyC];rcases fd with _|_;have h':K (.bool false) L:=by rcases hno:bw ty.2.1 v with _|m;rw[hno]at h;exact h;rw[hno]at h;simpa[inM]using h
 replace h':=hid h';clear hv h hc hfd;refine aoR ?_;refine hpc.o _ ?_;refine aoR ?_;exact ab rfl h'.o;rw[if_pos rfl]at h;have h0:=VP (key:=dS) (k:=af n) hr (d:=([],[]));rw[hfd,hc]at h0;have h1:c<l.length:=by simpa using((alx _ _).mp h0.symm).1
 have h2:=of_decide_eq_true ((alx _ _).mp h0.symm).2;have e5:=aaF h1;have hm:l.getD c ([],[])∈l:=by simp[h1]
 have hln:=hz _ hm;have hiv:InV ty.2.1 (l.getD c ([],[])).2:=by have:=KW hty;exact(agr hin hm (hts.2.2 ty this.1) (h2.trans this.2.symm)).2
 obtain⟨vs,hvs⟩:=alj ((l.getD c ([],[])).2);rw[hvs]at h e5 hln hiv;have e6:(c:Int)<(l.length:Int):=aoJ;have e7:c*2+1<(bc l).length:=by rw[iN];omega
 have hval:∀(X:List Blk){K:alp},K (ahQ ty.2.1 vs v) (L++X)->alo 119 [.agg [.str ty.1,.int .i64 ty.2.1,.bool ty.2.2.1,.bool ty.2.2.2],F9 vs,.str v] (L++X) K:=λX {K} q=>agS hln (.inl ⟨none,rfl⟩) hiv.1 q
 replace hval:=@hid _ @hval;clear h0 hm hvs hv hfd hc h2 hty;unfold ahQ at hval;rcases hno:bw ty.2.1 v with _|m;rw[hno]at h hval;replace h:=hid h;refine aoR ?_;refine hpc.o _ ?_;refine aoR ?_;refine aA (hval.o _ ⟨rfl,rfl⟩) ?_;refine aoR ?_;exact ab rfl h.o;rw[hno]at h hval;replace h:=hid h;refine aoR ?_;refine hpc.o _ ?_;refine aoR ?_;refine aA (hval.o _ ⟨rfl,rfl⟩) ?_;refine aoR ?_;exact ab rfl h.o
theorem Xj:∀{l m:List Int},l.Pairwise (· < ·)->m.Pairwise (· < ·)->(∀x,x∈l↔x∈m)->l=m
 |[],[],_,_,_=>rfl
 |[],b::m,_,_,h=>absurd ((h b).2 aoK) aoK
 |a::l,[],_,_,h=>absurd ((h a).1 aoK) aoK
 | a::l,b::m,h1,h2,h=>by
   rw[al7]at h1 h2;have hab:a=b:=by
    have ha:=(h a).1 aoK;have hb:=(h b).2 aoK;rcases alu.1 ha with e|e
    .exact e
    .rcases alu.1 hb with e'|e'
     .exact e'.symm
     .have:=h2.1 a e;have:=h1.1 b e';omega
   subst hab;rw[Xj h1.2 h2.2 λx=>?_];constructor
   .intro hx;have:=(h x).1 (by simp[hx]);rcases alu.1 this with e|e
    .have:=h1.1 x hx;omega
    .exact e
   .intro hx;have:=(h x).2 (by simp[hx]);rcases alu.1 this with e|e
    .have:=h2.1 x hx;omega
    .exact e
theorem xP{X:Type}{l:List (Int×X)}(h:(l.map (·.1)).Pairwise (· < ·))(p:Int×X->Bool):((l.filter p).map (·.1)).Pairwise (· < ·):=
 List.Pairwise.sublist (List.Sublist.map _ anw) h
abbrev bt:=Int×List Atr
variable {l:List bt}
abbrev iO(l:List bt):Prop:=(l.map (·.1)).Pairwise (· < ·)
def cQ(id:Int)(l:List bt):List bt:=l.filter λe=>decide (e.1≠id)
def mn(x:bt):List bt->List bt
 |[]=>[x]
 |e::t=>if x.1<e.1 then x::e::t else e::mn x t
def J4(id:Int)(a:List Atr)(l:List bt):List bt:=mn (id,a) (cQ id l)
theorem gE{e:bt}:e∈cQ id l↔e∈l/\e.1≠id:=by unfold cQ;rw[alZ];simp
theorem VX(h:iO l):iO (cQ id l):=xP h _
theorem VF{x e:bt}:∀{l:List bt},e∈mn x l↔e=x\/e∈l
 |[]=>by simp[mn]
 | y::t=>by
   rw[mn];split
   .simp
   .rw[alu,VF,alu];constructor
    .rintro(h|h|h)<;>simp[h]
    .rintro(h|h|h)<;>simp[h]
theorem XM{x:bt}:∀{l:List bt},iO l->(∀e∈l,e.1≠x.1)->iO (mn x l)
 |[],_,_=>by simp[mn,iO]
 | y::t,h,hn=>by
   have h':=h;unfold iO at h;rw[alD,al7]at h;rw[mn];split
   .rename_i hx;unfold iO;rw[alD,al7];refine⟨λa ha=>?_,h'⟩;rw[alD,alu]at ha;rcases ha with rfl|ha
    .exact hx
    .have:=h.1 a ha;omega
   .rename_i hx;unfold iO;rw[alD,al7];refine⟨λa ha=>?_,XM h.2 λe he=>hn e (by simp[he])⟩;obtain⟨e,he,rfl⟩:=alt.1 ha;rcases VF.1 he with rfl|he
    .have:=hn y aoK;omega
    .exact h.1 _ (alt.2 ⟨e,he,rfl⟩)
theorem mj{e:bt}:e∈J4 id a l↔e=(id,a)\/(e∈l/\e.1≠id):=by unfold J4;rw[VF,gE]
theorem adF(h:iO l):iO (J4 id a l):=
 XM (VX h) λe he=>(gE.1 he).2
theorem adx(h:iO l){a b:bt}(ha:a∈l)(hb:b∈l)(e:a.1=b.1):a=b:=by
 induction l with
 |nil=>cases ha
 | cons x t ih =>
   unfold iO at h;rw[alD,al7]at h;rcases alu.1 ha with rfl|ha<;>rcases alu.1 hb with rfl|hb
   .rfl
   .have:=h.1 b.1 (alt.2 ⟨b,by assumption,rfl⟩);omega
   .have:=h.1 a.1 (alt.2 ⟨a,by assumption,rfl⟩);omega
   .exact ih h.2 ha hb
abbrev ba:=List UInt8×Bool×List UInt8
variable {k:ba}{ks:List ba}
def db(s:List UInt8):List (List UInt8):=(List.range (s.length-2)).map λi=>(s.drop i).take 3
def xz(f:List UInt8)(syn:Int)(v:List UInt8):List ba:=match bw syn v with
 |none=>[]
 |some n=>(f,false,n)::(db n).map λg=>(f,true,g)
def eU(tys:List (List UInt8×Int))(l:List Atr):List ba:=tys.flatMap λt=>(cc l t.1).flatMap (xz t.1 t.2)
def gb(tys:List (List UInt8×Int))(l:List bt)(k:ba):List Int:=(l.filter λe=>(eU tys e.2).contains k).map (·.1)
def mG(l:List bt)(f:List UInt8):List Int:=(l.filter λe => !(cc e.2 f).isEmpty).map (·.1)
theorem XP(h:iO l):(gb tys l k).Pairwise (· < ·):=xP h _
theorem K2(h:iO l):(mG l f).Pairwise (· < ·):=xP h _
theorem mo{x:Int}:x∈gb tys l k↔∃a,(x,a)∈l/\k∈eU tys a:=by unfold gb;simp only[alt,alZ,ame];constructor;rintro⟨⟨y,a⟩,⟨h1,h2⟩,rfl⟩;exact⟨a,h1,h2⟩;rintro⟨a,h1,h2⟩;exact⟨(x,a),⟨h1,h2⟩,rfl⟩
theorem p9{x:Int}:x∈mG l f↔∃a,(x,a)∈l/\cc a f≠[]:=by unfold mG;simp only[alt,alZ,al4,List.isEmpty_eq_false_iff];constructor;rintro⟨⟨y,a⟩,⟨h1,h2⟩,rfl⟩;exact⟨a,h1,h2⟩;rintro⟨a,h1,h2⟩;exact⟨(x,a),⟨h1,h2⟩,rfl⟩
theorem ags{x:Int}:x∈gb tys (J4 id a l) k↔(x∈gb tys l k/\x≠id)\/(x=id/\k∈eU tys a):=by rw[mo,mo];constructor;rintro⟨b,h1,h2⟩;rcases mj.1 h1 with e|⟨e,e2⟩;cases e;exact .inr ⟨rfl,h2⟩;exact .inl ⟨⟨b,e,h2⟩,e2⟩;rintro(⟨⟨b,h1,h2⟩,h3⟩|⟨rfl,h2⟩);exact⟨b,mj.2 (.inr ⟨h1,h3⟩),h2⟩;exact⟨a,mj.2 (.inl rfl),h2⟩
theorem XQ{x:Int}:x∈gb tys (cQ id l) k↔x∈gb tys l k/\x≠id:=by rw[mo,mo];constructor;rintro⟨b,h1,h2⟩;obtain⟨e,e2⟩:=gE.1 h1;exact⟨⟨b,e,h2⟩,e2⟩;rintro⟨⟨b,h1,h2⟩,h3⟩;exact⟨b,gE.2 ⟨h1,h3⟩,h2⟩
theorem afC{x:Int}:x∈mG (J4 id a l) f↔(x∈mG l f/\x≠id)\/(x=id/\cc a f≠[]):=by rw[p9,p9];constructor;rintro⟨b,h1,h2⟩;rcases mj.1 h1 with e|⟨e,e2⟩;cases e;exact .inr ⟨rfl,h2⟩;exact .inl ⟨⟨b,e,h2⟩,e2⟩;rintro(⟨⟨b,h1,h2⟩,h3⟩|⟨rfl,h2⟩);exact⟨b,mj.2 (.inr ⟨h1,h3⟩),h2⟩;exact⟨a,mj.2 (.inl rfl),h2⟩
theorem aat(hd:(tys.map (·.1)).Nodup)(hm:(f,syn)∈tys){l:List Atr}{g:Bool}:(f,g,x)∈eU tys l↔∃v∈cc l f,∃n,bw syn v=some n/\((g=false/\x=n)\/(g=true/\x∈db n)):=by
 unfold eU;simp only[List.mem_flatMap];constructor;rintro⟨⟨f',s'⟩,h1,v,hv,hk⟩;unfold xz at hk;rcases hn:bw s' v with _|n;simp only[hn]at hk;cases hk;simp only[hn,alu,alt,alE]at hk;have hff:f=f':=by rcases hk with⟨e,_⟩|⟨_,_,e,_⟩<;>simp[e]
 subst hff;have hs:s'=syn:=by
  have:∀{t:List (List UInt8×Int)},(t.map (·.1)).Nodup->(f,s')∈t->(f,syn)∈t->s'=syn:=by
   intro t ht h1 h2;induction t with
   |nil=>cases h1
   | cons y t ih =>
     rw[alD,amm]at ht;rcases alu.1 h1 with e1|e1<;>rcases alu.1 h2 with e2|e2
     .rw[<- e1]at e2;cases e2;rfl
     .exact absurd (alt.2 ⟨_,e2,by rw[<- e1]⟩) ht.1
     .exact absurd (alt.2 ⟨_,e1,by rw[<- e2]⟩) ht.1
     .exact ih ht.2 e1 e2
  exact this hd h1 hm
 subst hs;refine⟨v,hv,n,hn,?_⟩;rcases hk with⟨_,e1,e2⟩|⟨g',hg',_,e1,e2⟩;exact .inl ⟨e1,e2⟩;exact .inr ⟨e1.symm,e2▸hg'⟩;rintro⟨v,hv,n,hn,h⟩;refine⟨(f,syn),hm,v,hv,?_⟩;unfold xz;simp only[hn,alu,alt,alE];rcases h with⟨e1,e2⟩|⟨e1,e2⟩;exact .inl ⟨trivial,e1,e2⟩;exact .inr ⟨x,e2,trivial,e1.symm,rfl⟩
abbrev Pc:=Int×List UInt8
def pcA(p:Pc):List AV:=[.int .i64 p.1,.str p.2]
def iP(l:List Pc):List AV:=l.flatMap pcA
theorem RI(l:List Pc):(iP l).length=l.length*2:=by
 induction l with
 |nil=>rfl
 |cons a l ih=>simp only[iP,amv,alJ,pcA,alA,amg]at ih⊢;omega
theorem RJ:∀{l:List Pc}{k:Nat},k<l.length->((iP l).drop (k*2)).take 2=pcA (l.getD k (0,[]))
 |a::l,0,_=>rfl
 |a::l,k+1,h=>by have ih:=@RJ l k (by simpa using h);rw[show(k+1)*2=k*2+1+1 by omega];simpa[iP,pcA]using ih
def acz(n i:Nat)(p:Pc):Bool:=decide (p.2=[]\/p.1<0\/2<p.1\/(p.1=0/\0<i)\/(p.1=2/\i+1<n))
def Vn(n:Nat):Nat->List Pc->Bool
 |_,[]=>true
 |i,p::t => !(acz n i p)&&Vn n (i+1) t
def tz(l:List Pc):Bool:=Vn l.length 0 l&&decide (0<l.length)
theorem ZD{l:List Pc}(hn:l.length<=1100000)(h:K (.bool (tz l)) L):alo 158 [.sl (iP l) l.length cap] L K:=by
 unfold tz at h;obtain⟨R,hR⟩:=alj (Vn l.length 0 l);rw[hR]at h;replace h:=hid h;have g0:IntKind.i64.wrap ((l.length:Int)-1)=(l.length:Int)-1:=ad aoJ aoJ;refine aln Tl ?_;refine ah (λn T' L'=>∃(i:Nat) (X:List Blk),n=l.length-i/\i<=l.length/\Hid (Vn l.length i (l.drop i)=R)/\T'=[(7,.int .i64 (i:Int)),(6,.int .i64 l.length),(5,.sl (iP l) l.length cap),(0,.sl (iP l) l.length cap)]/\L'=L++X) aoN ⟨0,[],rfl,alw _,hid (by simpa using hR),rfl,aoK⟩ ?_;rintro _ _ _ ⟨i,X,rfl,hi,hI,rfl,rfl⟩;by_cases hlt:i<l.length
 .have g1:(i:Int)<(l.length:Int):=aoJ;have g2:=alm i aoJ;have e3:=RJ hlt;have e4:i*2+2<=(iP l).length:=(by rw[RI];omega);obtain⟨⟨x,t⟩,ha⟩:∃a,l.getD i (0,[])=a:=⟨_,rfl⟩;have hdr:l.drop i=(x,t)::l.drop (i+1):=(by rw[ama hlt,<- ha];simp[hlt]);rw[ha]at e3;simp only[pcA]at e3;have hI2:=hI.o;rw[hdr,Vn]at hI2;have hbad:acz l.length i (x,t)=true->K (.bool false) L:=λe=>by have h':=h.o;rw[e]at hI2;simp only[am0,amL]at hI2;rw[<- hI2]at h';simpa using h'
  have hgo:acz l.length i (x,t)=false->Vn l.length (i+1) (l.drop (i+1))=R:=λe=>by rw[e]at hI2;simpa using hI2
  simp only[acz,decide_eq_true_eq,decide_eq_false_iff_not]at hbad hgo;replace hbad:=hid hbad;replace hgo:=hid hgo;clear hdr ha hI2 hR
  repeat' first
   |refine bd ?_
   | (first|refine aV aoL ?_|refine aB aoL ?_|refine aE ?_|refine bJ ?_|refine bg (fun _=>?_)|refine ax ?_|refine aY ?_)
     refine sm ?_
   | (first|refine aO aoL ?_|refine aP ?_|refine aD ?_|refine aW ?_|refine bq (aw ?_))
     refine sl ?_
   |exact bh
   |first|apply bj|apply aR|apply bm|apply aS|apply bo|apply aT
   |refine aH ?_
   |refine aC ?_
   |first|refine aF rfl ?_|refine aG rfl ?_|refine ao rfl ?_ ?_|refine aJ rfl (λ_=>?_) (λ_=>?_)|refine aI rfl (λ_=>?_) (λ_=>?_)
   |((first|refine an (λ_=>?_) (λ_=>?_)|refine au (λ_=>?_) (λ_=>?_))<;>try refine sm ?_)
   |refine And.intro trivial ?_
   |refine And.intro aoJ ?_
   |refine aL rfl (λ_=>?_) (λ_=>?_)
   |refine And.intro ?_ ?_
  rename_i hx;refine ab rfl (hbad.o ?_);rcases hx with(e|e)|e;exact .inl e;exact .inr (.inl e);exact .inr (.inr (.inl e));rename_i hx hy;exact ab rfl (hbad.o (.inr (.inr (.inr aoJ))));rename_i hx hy;refine aoO aoJ aoM ⟨i+1,_,rfl,hlt,hid (hgo.o λhb=>?_),rfl,rfl⟩;rcases hb with e|e|e|e;exact hx (.inl (.inl e));exact hx (.inl (.inr e));exact hx (.inr e);exact hy aoJ
 have hke:i=l.length:=aoJ;subst hke;have g1:¬(l.length:Int)<(l.length:Int):=aoJ;have hz:=hI.o;rw[al6,Vn]at hz;have h':=h.o;rw[<- hz,aml,show decide (0<l.length)=decide ((0:Int)<(l.length:Int))by simp]at h';replace h':=hid h';clear hz hR;refine wk ?_;exact ab rfl h'.o
abbrev akM(l:List Pc)(cap:Option Nat):AV:=.agg [.int .i64 4,.str [97],.str [],.sl (iP l) l.length cap,.sl [] 0 (some 0)]
theorem ahb{l:List Pc}(hn:l.length<=1100000)(hL:L[p]?=some (.cells [.int .i64 0]))(h:K (.int .i64 (if tz l=true then 0 else 4)) (L.set p (.cells [.int .i64 1]))):
  alo 120 [.ptr p 0,akM l cap,.int .i64 1] L K:=by
 have hp:p<L.length:=(alq.1 hL).1;have f1:∀X:List Blk,(L++X)[p]?=some (.cells [.int .i64 0]):=λX=>by rw[aly hp];exact hL
 have f2:∀(X:List Blk) A,(L++X).set p A=L.set p A++X:=λX A=>amh _ _ hp
 have f3:∀(X:List Blk) A,(L.set p A++X)[p]?=some A:=λX A=>by rw[aly (by simpa using hp),alO,if_pos rfl,if_pos hp]
 have f4:∀A:Blk,(L.set p A).length=L.length:=λA=>aoK
 have f5:∀(X:List Blk) A,(L.set p A++X)[L.length]?=X[0]?:=λX A=>by rw[alT aoK];simp
 have hty:gh [97]=true:=by decide
 have fin:∀(X:List Blk) (r:Int),K (.int .i64 r) (L.set p (.cells [.int .i64 1]))->Fin L (.int .i64 r) (L.set p (.cells [.int .i64 1])++X) K:=λX r hk =>
  mE (f4 _) (λhh k hk'=>by rcases anM hk' with e|e;exact hh k e;subst e;rfl) rfl hk
 replace fin:=hid fin;replace h:=hid h;refine aln xD ?_;refine Yk ?_;rw[hty];refine sk ?_;cases hok:tz l with
 | true =>
   have h':=h.o;rw[hok,if_pos rfl]at h';replace h':=hid h';have kk1:=@aoQ _ _ _ _ (ZD (cap:=cap) hn);refine wk ?_;exact fin.o _ _ h'.o
 | false =>
   have h':=h.o;rw[hok,if_neg aoK]at h';replace h':=hid h';have kk1:=@aoQ _ _ _ _ (ZD (cap:=cap) hn);refine wk ?_;exact fin.o _ _ h'.o
theorem ql{l:List Pc}(hn:l.length<=1100000)(h:K (.int .i64 (if tz l=true then 0 else 4)) L):
  alo 76 [akM l cap] L K:=by
 obtain⟨r,hr⟩:∃r:Int,(if tz l=true then 0 else 4)=r:=⟨_,rfl⟩;rw[hr]at h;replace h:=hid h;refine aln UH ?_;refine ahb hn (by rw[oM];rfl) ?_;rw[hr];refine aoR ?_;exact ab rfl h.o
def pcT(ex:Bool)(p:Pc):List UInt8:=if ex=true then p.2 else af p.2
def YB(ex:Bool):List UInt8->List Pc->Bool
 |_,[]=>true
 | s,p::t=>if (p.1=0/\Lib.hasPrefix s (pcT ex p)=false)\/(p.1=2/\Lib.hasSuffix s (pcT ex p)=false)\/Lib.index s (pcT ex p)<0 then false
   else YB ex (s.drop ((Lib.index s (pcT ex p)).toNat+(pcT ex p).length)) t
def rW(syn:Int)(v:List UInt8)(l:List Pc):Option Bool:=match bw syn v with
 |none=>none
 |some s=>if(syn=1\/syn=2\/syn=3)/\tz l=true then some (YB (decide (syn=2)) s l)else none
def ZV:Option Bool->AV
 |none=>.tup [.bool false,.bool false]
 |some b=>.tup [.bool b,.bool true]
theorem ZM{s:List UInt8}(h:bw syn v=some s)(h3:syn=1\/syn=2\/syn=3):s.length<=4096:=by have hv:=K3 h;have hp:=rr v;unfold bw at h;split at h;cases h;unfold tA at h;rcases h3 with rfl|rfl|rfl;rw[if_pos rfl]at h;split at h;cases h;split at h;cases h;omega;cases h;rw[if_neg (by decide),if_pos rfl]at h;split at h;cases h;split at h;cases h;omega;cases h;rw[if_neg (by decide),if_neg (by decide),if_pos rfl]at h;split at h;cases h;omega;cases h
theorem abu{l:List Pc}(hn:l.length<=1100000)(ht:∀p∈l,(p.2.length:Int)<=140737488351232)(h:K (ZV (rW syn v l)) L):
  alo 79 [.int .i64 syn,.str v,.sl (iP l) l.length cap] L K:=by
 unfold rW at h;refine aln SZ ?_;refine eg ?_;rcases hs:bw syn v with _|s;rw[hs]at h;simp only[ZV]at h;replace h:=hid h;simp only[iC];refine aoR ?_;exact aa h.o;rw[hs]at h;simp only at h;simp only[iC];by_cases h3:syn=1\/syn=2\/syn=3;rotate_left;rw[if_neg (λe=>h3 e.1)]at h;simp only[ZV]at h;replace h:=hid h;have k1:¬syn=1:=λe=>h3 (.inl e)
 have k2:¬syn=2:=λe=>h3 (.inr (.inl e))
 have k3:¬syn=3:=λe=>h3 (.inr (.inr e))
 clear hs h3;refine aoR ?_;exact aa h.o;have hsl:=ZM hs h3;clear hs;have hb3:(!decide (syn=1) && !decide (syn=2) && !decide (syn=3))=false:=by rcases h3 with rfl|rfl|rfl<;>rfl
 cases hok:tz l with
 | false =>
   rw[hok,if_neg aoK]at h;simp only[ZV]at h;replace h:=hid h;have e4:(if false=true then(0:Int)else 4)=4:=rfl;rcases h3 with rfl|rfl|rfl
   .refine sk ?_;have kk1:=@aoQ _ _ _ _ (ql (cap:=cap) hn);refine wk ?_;exact aa h.o
   .refine sk ?_;have kk1:=@aoQ _ _ _ _ (ql (cap:=cap) hn);refine wk ?_;exact aa h.o
   .refine sk ?_;have kk1:=@aoQ _ _ _ _ (ql (cap:=cap) hn);refine wk ?_;exact aa h.o
 |true =>
 rw[if_pos ⟨h3,hok⟩]at h;obtain⟨R,hR⟩:=alj (YB (decide (syn=2)) s l);rw[hR]at h;simp only[ZV]at h;replace h:=hid h;obtain⟨ex,hex⟩:=alj (decide (syn=2));rw[hex]at hR;replace hR:=hid hR;replace ht:=hid ht;refine sk ?_
 iterate 1 first
  |refine bd ?_
  | (first|refine aV aoL ?_|refine aB aoL ?_|refine aE ?_|refine bJ ?_|refine bg (fun _=>?_)|refine ax ?_|refine aY ?_)
    simp(config:={maxSteps:=2000000}) only[Kon,push_cast,reduceIte,Nat.reduceEqDiff,Nat.reduceAdd,Nat.reduceMul,Nat.reduceSub,Nat.reduceLT,Nat.reduceLeDiff,Int.reduceLT,Int.reduceLE,Int.reduceAdd,Int.reduceSub,Int.reduceNeg,Int.reduceToNat,Int.reduceEq,reduceCtorEq, *]
  | (first|refine aO aoL ?_|refine aP ?_|refine aD ?_|refine aW ?_|refine bq (aw ?_))
    simp only[push_cast,reduceIte,Nat.reduceEqDiff,Nat.reduceAdd,Nat.reduceMul,Nat.reduceSub,Nat.reduceLT,Nat.reduceLeDiff,Int.reduceLT,Int.reduceLE,Int.reduceAdd,Int.reduceSub,Int.reduceNeg,Int.reduceToNat,Int.reduceEq,reduceCtorEq, *]
  |exact bh
  |first|apply bj|apply aR|apply bm|apply aS|apply bo|apply aT
  |refine aH ?_
  |refine aC ?_
  |first|refine aF rfl ?_|refine aG rfl ?_|refine ao rfl ?_ ?_|refine aJ rfl (λ_=>?_) (λ_=>?_)|refine aI rfl (λ_=>?_) (λ_=>?_)
  |((first|refine an (λ_=>?_) (λ_=>?_)|refine au (λ_=>?_) (λ_=>?_))<;>try simp(config:={maxSteps:=2000000}) only[Kon,push_cast,reduceIte,Nat.reduceEqDiff,Nat.reduceAdd,Nat.reduceMul,Nat.reduceSub,Nat.reduceLT,Nat.reduceLeDiff,Int.reduceLT,Int.reduceLE,Int.reduceAdd,Int.reduceSub,Int.reduceNeg,Int.reduceToNat,Int.reduceEq,reduceCtorEq, *])
  |refine And.intro trivial ?_
  |refine And.intro aoJ ?_
  |refine aL rfl (λ_=>?_) (λ_=>?_)
  |refine And.intro ?_ ?_
 refine Lg (λT2 L2=>T2=[(8,.str s),(0,.int .i64 syn),(2,.sl (iP l) l.length cap)]/\L=L2) ?_ ?_;rcases h3 with rfl|rfl|rfl;have kk1:=@aoQ _ _ _ _ (ql (cap:=cap) hn);refine wk ?_;exact iT _ _ aoM ⟨rfl,rfl⟩;have kk1:=@aoQ _ _ _ _ (ql (cap:=cap) hn);refine wk ?_;exact iT _ _ aoM ⟨rfl,rfl⟩;have kk1:=@aoQ _ _ _ _ (ql (cap:=cap) hn);refine wk ?_;exact iT _ _ aoM ⟨rfl,rfl⟩;rintro _ _ ⟨rfl,rfl⟩ -;clear hb3 hok;refine wk ?_;refine ah (λn T' L'=>∃(i:Nat) (u:List UInt8) (Z:List Blk),n=l.length-i/\i<=l.length/\u.length<=4096/\Hid (YB ex u (l.drop i)=R)/\T'=[(42,.int .i64 (i:Int)),(41,.int .i64 l.length),(40,.sl (iP l) l.length cap),(8,.str u),(0,.int .i64 syn)]/\L'=L++Z) aoN ⟨0,s,[],rfl,alw _,hsl,hid (by simpa using hR.o),rfl,aoK⟩ ?_;clear hsl hR;rintro _ _ _ ⟨i,u,X,rfl,hi,hul,hI,rfl,rfl⟩;by_cases hlt:i<l.length;rotate_left;have hke:i=l.length:=aoJ;subst hke;have g1:¬(l.length:Int)<(l.length:Int):=aoJ;have h':=h.o;rw[<- hI.o,al6,YB]at h';replace h':=hid h';refine wk ?_;exact ab rfl h'.o;have g1:(i:Int)<(l.length:Int):=aoJ;have g2:=alm i aoJ;have e3:=RJ hlt;have e4:i*2+2<=(iP l).length:=by rw[RI];omega
 obtain⟨⟨x,t⟩,ha⟩:∃a,l.getD i (0,[])=a:=⟨_,rfl⟩;have hdr:l.drop i=(x,t)::l.drop (i+1):=by rw[ama hlt,<- ha];simp[hlt]
 have htl:=ht.o (x,t) (by rw[<- ha];simp[hlt]);simp only at htl;rw[ha]at e3;simp only[pcA]at e3;have hI2:=hI.o;rw[hdr,YB]at hI2;simp only at hI2;obtain⟨w,hw⟩:=alj (pcT ex (x,t));rw[hw]at hI2;clear hdr ha hI;replace hI2:=hid hI2
 iterate 15 first
  |refine bd ?_
  | (first|refine aV aoL ?_|refine aB aoL ?_|refine aE ?_|refine bJ ?_|refine bg (fun _=>?_)|refine ax ?_|refine aY ?_)
    simp(config:={maxSteps:=2000000}) only[Kon,push_cast,reduceIte,Nat.reduceEqDiff,Nat.reduceAdd,Nat.reduceMul,Nat.reduceSub,Nat.reduceLT,Nat.reduceLeDiff,Int.reduceLT,Int.reduceLE,Int.reduceAdd,Int.reduceSub,Int.reduceNeg,Int.reduceToNat,Int.reduceEq,reduceCtorEq, *]
  | (first|refine aO aoL ?_|refine aP ?_|refine aD ?_|refine aW ?_|refine bq (aw ?_))
    simp only[push_cast,reduceIte,Nat.reduceEqDiff,Nat.reduceAdd,Nat.reduceMul,Nat.reduceSub,Nat.reduceLT,Nat.reduceLeDiff,Int.reduceLT,Int.reduceLE,Int.reduceAdd,Int.reduceSub,Int.reduceNeg,Int.reduceToNat,Int.reduceEq,reduceCtorEq, *]
  |exact bh
  |first|apply bj|apply aR|apply bm|apply aS|apply bo|apply aT
  |refine aH ?_
  |refine aC ?_
  |first|refine aF rfl ?_|refine aG rfl ?_|refine ao rfl ?_ ?_|refine aJ rfl (λ_=>?_) (λ_=>?_)|refine aI rfl (λ_=>?_) (λ_=>?_)
  |((first|refine an (λ_=>?_) (λ_=>?_)|refine au (λ_=>?_) (λ_=>?_))<;>try simp(config:={maxSteps:=2000000}) only[Kon,push_cast,reduceIte,Nat.reduceEqDiff,Nat.reduceAdd,Nat.reduceMul,Nat.reduceSub,Nat.reduceLT,Nat.reduceLeDiff,Int.reduceLT,Int.reduceLE,Int.reduceAdd,Int.reduceSub,Int.reduceNeg,Int.reduceToNat,Int.reduceEq,reduceCtorEq, *])
  |refine And.intro trivial ?_
  |refine And.intro aoJ ?_
  |refine aL rfl (λ_=>?_) (λ_=>?_)
  |refine And.intro ?_ ?_
 refine Lg (λT2 L2=>T2=[(12,.str w),(11,.ptr (L.length+X.length) 0),(42,.int .i64 (i:Int)),(41,.int .i64 l.length),(40,.sl (iP l) l.length cap),(8,.str u),(0,.int .i64 syn)]/\L2=L++(X++[.cells [.int .i64 x,.str t]])) ?_ ?_;unfold pcT at hw;cases ex with
 | true =>
   rw[if_pos rfl]at hw;have k2:syn=2:=(by simpa using hex);simp only at hw;subst hw;subst k2;refine wk ?_;exact iT _ _ aoM ⟨rfl,rfl⟩
 | false =>
   rw[if_neg aoK]at hw;have k2:¬syn=2:=(by simpa using hex);simp only at hw;clear hex;have kk1:=@aoQ _ _ _ _ (fv htl);refine wk ?_;exact iT _ _ aoM ⟨rfl,rfl⟩
 rintro _ _ ⟨rfl,rfl⟩ -;clear hex hw;obtain⟨pf,hpf⟩:=alj (Lib.hasPrefix u w);obtain⟨sf,hsf⟩:=alj (Lib.hasSuffix u w);obtain⟨z,hz⟩:=alj (Lib.index u w);have hI3:=hI2.o;rw[hpf,hsf,hz]at hI3;have hbad:((x=0/\pf=false)\/(x=2/\sf=false)\/z<0)->K (.tup [.bool false,.bool true]) L:=λe=>by rw[if_pos e]at hI3;have h':=h.o;rwa[<- hI3]at h'
 have hgo:¬((x=0/\pf=false)\/(x=2/\sf=false)\/z<0)->YB ex (u.drop (z.toNat+w.length)) (l.drop (i+1))=R:=λe=>by rw[if_neg e]at hI3;exact hI3
 replace hbad:=hid hbad;replace hgo:=hid hgo;clear hI2 hI3;have hul2:u.length<=1100000:=aoJ;by_cases hneg:z<0
 .repeat' first
   |refine bd ?_
   | (first|refine aV aoL ?_|refine aB aoL ?_|refine aE ?_|refine bJ ?_|refine bg (fun _=>?_)|refine ax ?_|refine aY ?_|refine iW ?_|refine iV hul2 ?_|refine oR hul2 ?_|refine aU (iW ⟨rfl,rfl⟩) (iW ⟨rfl,rfl⟩) ?_|refine aU (iV hul2 ⟨rfl,rfl⟩) (iV hul2 ⟨rfl,rfl⟩) ?_|refine aU (oR hul2 ⟨rfl,rfl⟩) (oR hul2 ⟨rfl,rfl⟩) ?_|refine aA (iW ⟨rfl,rfl⟩) ?_|refine aA (iV hul2 ⟨rfl,rfl⟩) ?_|refine aA (oR hul2 ⟨rfl,rfl⟩) ?_)
     simp(config:={maxSteps:=2000000}) only[Kon,push_cast,reduceIte,Nat.reduceEqDiff,Nat.reduceAdd,Nat.reduceMul,Nat.reduceSub,Nat.reduceLT,Nat.reduceLeDiff,Int.reduceLT,Int.reduceLE,Int.reduceAdd,Int.reduceSub,Int.reduceNeg,Int.reduceToNat,Int.reduceEq,reduceCtorEq, *]
   | (first|refine aO aoL ?_|refine aP ?_|refine aD ?_|refine aW ?_|refine bq (aw ?_))
     simp only[push_cast,reduceIte,Nat.reduceEqDiff,Nat.reduceAdd,Nat.reduceMul,Nat.reduceSub,Nat.reduceLT,Nat.reduceLeDiff,Int.reduceLT,Int.reduceLE,Int.reduceAdd,Int.reduceSub,Int.reduceNeg,Int.reduceToNat,Int.reduceEq,reduceCtorEq, *]
   |exact bh
   |first|apply bj|apply aR|apply bm|apply aS|apply bo|apply aT
   |refine aH ?_
   |refine aC ?_
   |first|refine aF rfl ?_|refine aG rfl ?_|refine ao rfl ?_ ?_|refine aJ rfl (λ_=>?_) (λ_=>?_)|refine aI rfl (λ_=>?_) (λ_=>?_)
   |((first|refine an (λ_=>?_) (λ_=>?_)|refine au (λ_=>?_) (λ_=>?_))<;>try simp(config:={maxSteps:=2000000}) only[Kon,push_cast,reduceIte,Nat.reduceEqDiff,Nat.reduceAdd,Nat.reduceMul,Nat.reduceSub,Nat.reduceLT,Nat.reduceLeDiff,Int.reduceLT,Int.reduceLE,Int.reduceAdd,Int.reduceSub,Int.reduceNeg,Int.reduceToNat,Int.reduceEq,reduceCtorEq, *])
   |refine And.intro trivial ?_
   |refine And.intro aoJ ?_
   |refine aL rfl (λ_=>?_) (λ_=>?_)
   |refine And.intro ?_ ?_
  rename_i hx;exact ab rfl (hbad.o (.inl (by simpa using hx)));rename_i hx hy;exact ab rfl (hbad.o (.inr (.inl (by simpa using hy))));exact ab rfl (hbad.o (.inr (.inr hneg)))
 .have hroom:=Lib.index_room u w (by rw[hz];omega);rw[hz]at hroom;obtain⟨a,rfl⟩:∃a:Nat,z=(a:Int):=⟨z.toNat,aoJ⟩;have m1:IntKind.i64.wrap ((a:Int)+(w.length:Int))=(a:Int)+(w.length:Int):=ad aoJ aoJ;have m2:((a:Int)+(w.length:Int)).toNat=a+w.length:=aoJ;have m3:(u.drop (a+w.length)).take (u.length-(a+w.length))=u.drop (a+w.length):=ams aoK;have m4:(0:Int)<=(a:Int)+(w.length:Int):=aoJ
  repeat' first
   |refine bd ?_
   | (first|refine aV aoL ?_|refine aB aoL ?_|refine aE ?_|refine bJ ?_|refine bg (fun _=>?_)|refine ax ?_|refine aY ?_|refine iW ?_|refine iV hul2 ?_|refine oR hul2 ?_|refine aU (iW ⟨rfl,rfl⟩) (iW ⟨rfl,rfl⟩) ?_|refine aU (iV hul2 ⟨rfl,rfl⟩) (iV hul2 ⟨rfl,rfl⟩) ?_|refine aU (oR hul2 ⟨rfl,rfl⟩) (oR hul2 ⟨rfl,rfl⟩) ?_|refine aA (iW ⟨rfl,rfl⟩) ?_|refine aA (iV hul2 ⟨rfl,rfl⟩) ?_|refine aA (oR hul2 ⟨rfl,rfl⟩) ?_)
     simp(config:={maxSteps:=2000000}) only[Kon,push_cast,reduceIte,Nat.reduceEqDiff,Nat.reduceAdd,Nat.reduceMul,Nat.reduceSub,Nat.reduceLT,Nat.reduceLeDiff,Int.reduceLT,Int.reduceLE,Int.reduceAdd,Int.reduceSub,Int.reduceNeg,Int.reduceToNat,Int.reduceEq,reduceCtorEq, *]
   | (first|refine aO aoL ?_|refine aP ?_|refine aD ?_|refine aW ?_|refine bq (aw ?_))
     simp only[push_cast,reduceIte,Nat.reduceEqDiff,Nat.reduceAdd,Nat.reduceMul,Nat.reduceSub,Nat.reduceLT,Nat.reduceLeDiff,Int.reduceLT,Int.reduceLE,Int.reduceAdd,Int.reduceSub,Int.reduceNeg,Int.reduceToNat,Int.reduceEq,reduceCtorEq, *]
   |exact bh
   |first|apply bj|apply aR|apply bm|apply aS|apply bo|apply aT
   |refine aH ?_
   |refine aC ?_
   |first|refine aF rfl ?_|refine aG rfl ?_|refine ao rfl ?_ ?_|refine aJ rfl (λ_=>?_) (λ_=>?_)|refine aI rfl (λ_=>?_) (λ_=>?_)
   |((first|refine an (λ_=>?_) (λ_=>?_)|refine au (λ_=>?_) (λ_=>?_))<;>try simp(config:={maxSteps:=2000000}) only[Kon,push_cast,reduceIte,Nat.reduceEqDiff,Nat.reduceAdd,Nat.reduceMul,Nat.reduceSub,Nat.reduceLT,Nat.reduceLeDiff,Int.reduceLT,Int.reduceLE,Int.reduceAdd,Int.reduceSub,Int.reduceNeg,Int.reduceToNat,Int.reduceEq,reduceCtorEq, *])
   |refine And.intro trivial ?_
   |refine And.intro aoJ ?_
   |refine aL rfl (λ_=>?_) (λ_=>?_)
   |refine And.intro ?_ ?_
  rename_i hx;exact ab rfl (hbad.o (.inl (by simpa using hx)));rename_i hx hy;exact ab rfl (hbad.o (.inr (.inl (by simpa using hy))));rename_i hx hy;refine aoO aoJ aoM ⟨i+1,u.drop (a+w.length),_,rfl,hlt,?_,hid ?_,rfl,rfl⟩;simp;omega;have:=hgo.o (λe=>by rcases e with e|e|e;rw[decide_eq_true e.1,e.2]at hx;simp at hx;rw[decide_eq_true e.1,e.2]at hy;simp at hy;omega)
  simpa using this
theorem af8(b:UInt8):dP (dP b)=dP b:=by unfold dP;split;rename_i h;split;rename_i h2;exfalso;simp only[alx,decide_eq_true_eq,UInt8.le_iff_toNat_le,UInt8.lt_iff_toNat_lt,UInt8.toNat_add]at h h2;have:=b.toNat_lt;simp at h h2;omega;rfl;rfl
theorem aeg(t:List UInt8):af (af t)=af t:=by unfold af;rw[al0];exact am5 λb _=>af8 b
theorem VG:∀{s sub:List UInt8},0<=Lib.index s sub->(s.drop (Lib.index s sub).toNat).take sub.length=sub/\(Lib.index s sub).toNat+sub.length<=s.length
 | [],sub,h=>by
   unfold Lib.index at h⊢;split
   .rename_i e;have:sub=[]:=(by simpa using e);subst this;simp
   .rename_i e;rw[if_neg e]at h;omega
 | b::l,sub,h=>by
   unfold Lib.index at h⊢;split
   .rename_i e;have hp:=List.isPrefixOf_iff_prefix.1 e;exact⟨by simpa using(List.prefix_iff_eq_take.1 hp).symm,by simpa using hp.length_le⟩
   .rename_i e;rw[if_neg e]at h;split
    .rename_i e2;rw[if_pos e2]at h;omega
    .rename_i e2;have hge:=Lib.index_ge l sub;have e3:¬Lib.index l sub=-1:=(by simpa using e2);obtain⟨h1,h2⟩:=VG (s:=l) (sub:=sub) aoJ;rw[show(Lib.index l sub+1).toNat=(Lib.index l sub).toNat+1 by omega,anZ];exact⟨h1,by rw[alA];omega⟩
theorem aab{s t:List UInt8}{k:Nat}(h:(s.drop k).take t.length=t)(hk:k+t.length<=s.length){g:List UInt8}(hg:g∈db t):g∈db s:=by
 unfold db at hg⊢;obtain⟨i,hi,rfl⟩:=alt.1 hg;rw[anH]at hi;refine alt.2 ⟨k+i,anH.2 aoJ,?_⟩
 conv=>rhs;rw[<- h]
 rw[List.drop_take,anG,List.take_take];congr 1;omega
theorem Vz{ex:Bool}:∀{l:List Pc}{s:List UInt8},YB ex s l=true->∀p∈l,∀g∈db (pcT ex p),g∈db s
 |[],_,_,p,hp,_,_=>by cases hp
 | q::t,s,h,p,hp,g,hg=>by
   rw[YB]at h;split at h
   .cases h
   .rename_i hn;have h0:0<=Lib.index s (pcT ex q):=by
     have:=Lib.index_ge s (pcT ex q);have:¬Lib.index s (pcT ex q)<0:=λe=>hn (.inr (.inr e))
     omega
    obtain⟨h1,h2⟩:=VG h0;rcases alu.1 hp with rfl|hp
    .exact aab h1 h2 hg
    .have:=Vz h p hp g hg;refine aab (s:=s) (t:=s.drop ((Lib.index s (pcT ex q)).toNat+(pcT ex q).length)) (k:=(Lib.index s (pcT ex q)).toNat+(pcT ex q).length) ?_ ?_ this
     .rw[alF]
     .rw[ank];omega
def RS(tys:List (List UInt8×Int))(l:List bt)(f:List UInt8)(syn:Int)(ps:List Pc):List Int :=
 (mG l f).filter λid=>ps.all λp=>(db (pcT (decide (syn=2)) p)).all λg=>(gb tys l (f,true,g)).contains id
def agU(tys:List (List UInt8×Int))(l:List bt)(f:List UInt8)(syn:Int)(v:List UInt8):List Int:=match bw syn v with
 |none=>[]
 |some n=>gb tys l (f,false,n)
theorem ag4(hd:(tys.map (·.1)).Nodup)(hm:(f,syn)∈tys)(he:(id,a)∈l)(hv:v∈cc a f){ps:List Pc}(hl:rW syn v ps=some true):id∈RS tys l f syn ps:=by unfold rW at hl;rcases hn:bw syn v with _|s;simp only[hn]at hl;cases hl;simp only[hn]at hl;split at hl;simp only[als]at hl;unfold RS;rw[alZ];refine⟨p9.2 ⟨a,he,λe=>by rw[e]at hv;cases hv⟩,?_⟩;rw[alC];intro p hp;rw[alC];intro g hg;rw[ame,mo];exact⟨a,he,(aat hd hm).2 ⟨v,hv,s,hn,.inr ⟨rfl,Vz hl p hp g hg⟩⟩⟩;cases hl
open Go Go.MapKept
section
variable {P:Program}{w0:World}{S0:SB}{E:Env}{L:List Blk}{w:World}{T:Tm}{a:Act}{N:Nat}
theorem ay.mem1:∀{es:List (AV×AV×Nat)}{rs:List MapEntry}{f:MapEntry},ay E es rs->f∈rs->∃e∈es,VR E e.1 f.key/\VR E e.2.1 f.val/\e.2.2=f.born
 |[],rs,f,h,hf=>by simp only[ay]at h;subst h;cases hf
 | (k,x,b)::es,rs,f,h,hf=>by
   obtain⟨g,t,rfl,g1,g2,g3,g4⟩:=h;rcases alu.1 hf with rfl|hf
   .exact⟨_,.head _,g1,g2,g3.symm⟩
   .obtain⟨e,he,h1⟩:=ay.mem1 g4 hf;exact⟨e,.tail _ he,h1⟩
theorem ay.mem2:∀{es:List (AV×AV×Nat)}{rs:List MapEntry}{e:AV×AV×Nat},ay E es rs->e∈es->∃f∈rs,e.2.2=f.born
 |[],rs,e,h,he=>by cases he
 | (k,x,b)::es,rs,e,h,he=>by
   obtain⟨g,t,rfl,g1,g2,g3,g4⟩:=h;rcases alu.1 he with rfl|he
   .exact⟨g,.head _,g3.symm⟩
   .obtain⟨f,hf,h1⟩:=ay.mem2 g4 he;exact⟨f,.tail _ hf,h1⟩
theorem WQ{t:TypeId}{v:Value}{i j ck since last:Nat}{seen:List Nat}{es:List (AV×AV×Nat)}(hR:Rel w0 S0 E L w)(hi:L[i]?=some (.miter (some j) since seen last))(hj:L[j]?=some (.map es ck))(hv:VR E (.ptr i 0) v)(hold:∀e∈es,e.2.2<since)(hsc:since<=last):
  ∃r,(match r with|none=>∀e∈es,seen.contains e.2.2=true|some e=>e∈es/\seen.contains e.2.2=false)/\cX P w0 S0 E (Xz L i j since seen ck r) (O8 r) w (Instr.next v false t):=by
 simp only[VR]at hv;obtain⟨c,hc,rfl⟩:=hv;obtain⟨c',q,h1,h2,h3,d,h4,rfl⟩:=hR.blk i _ hi;rw[hc]at h1;cases h1;obtain⟨d',rs,g1,g2,g3⟩:=hR.blk j _ hj;rw[h4]at g1;cases g1;have hlt:c.blk<w.heap.size:=(amt.1 h2).1;have hold':∀x∈rs.toList,x.born<since:=λx hx=>by obtain⟨e,he,_,_,h⟩:=g3.mem1 hx;rw[<- h];exact hold e he
 rw[h3];rcases run_next_at (P:=P) w t c.blk d.blk since last ⟨seen⟩ rs ck h2 g2 hold' hsc with⟨h0,hrun⟩|⟨f,hf,w1,hw,hrun⟩;refine⟨none,λe he=>?_,.same hR hrun (by simp[O8,VR,VRL])⟩;obtain⟨f,hf,hb⟩:=g3.mem2 he;rw[hb];have hz:leftOf rs ⟨seen⟩=#[]:=Array.eq_empty_of_size_eq_zero h0;unfold leftOf at hz;rw[Array.filter_eq_empty_iff]at hz;have:=hz f (by simpa using hf);simpa using this;have hf':f∈rs.toList/\seen.contains f.born=false:=by simp only[leftOf,Array.toList_filter,alZ]at hf;exact⟨hf.1,by simpa using hf.2⟩
 obtain⟨e,he,k1,k2,k3⟩:=g3.mem1 hf'.1;have hR1:Rel w0 S0 E L w1:=by rcases hw with rfl|rfl;exact hR;exact hR.grown ⟨λ_ _=>rfl,alr _,rfl,rfl,rfl⟩
 have hlt1:c.blk<w1.heap.size:=by rcases hw with rfl|rfl<;>exact hlt
 have turn:=hR1.turn (w':={w1 with heap:=w1.heap.setIfInBounds c.blk (.mapIter (some d.blk) since ((⟨seen⟩:Array Nat).push f.born) ck)}) (k':=.miter (some j) since (seen++[f.born]) ck) hi rfl hc aoK (λb hb=>by simp[anU,Ne.symm hb]) rfl rfl rfl
  ⟨c,some d.blk,hc,by simp[hlt1],h3,d,h4,rfl⟩ (λ_ _ e=>by cases e)
 refine⟨some e,⟨he,by rw[k3];exact hf'.2⟩,E,.tuple #[.bool true,f.key,f.val],_,hrun,.refl E,?_,?_⟩;simp only[O8,VR,VRL];exact⟨[.bool true,f.key,f.val],rfl,.bool true,[f.key,f.val],rfl,rfl,f.key,[f.val],rfl,k1,f.val,[],rfl,k2,rfl⟩;simp only[Xz,k3];exact turn
def LOp.isNext:LOp->Bool
 |.mnext _=>true
 |_=>false
theorem abr{own:Nat}{s d:TypeId}{x:Opd}{lo:LOp}(h:xY P own s d x=some lo):lo.isNext=false:=by
 unfold xY at h
 repeat' split at h
 all_goals (first|(cases h;rfl)|cases h)
theorem adO{op:BinOp}{t:TypeId}{x y:Operand}{lo:LOp}(h:Pn P op t x y=some lo):lo.isNext=false:=by
 unfold Pn at h
 repeat' split at h
 all_goals (first|(cases h;rfl)|cases h)
theorem WN{own:Nat}{b:Builtin}{ts:List TypeId}{xs:List Opd}{lo:LOp}(h:dl P own b ts xs=some lo):lo.isNext=false:=by
 unfold dl at h
 repeat' split at h
 all_goals (first|(cases h;rfl)|cases h|(simp only[alS]at h;obtain⟨_,_,rfl⟩:=h;rfl))
theorem abq{own:Nat}{op:Op}{y:Opd}(h:iE P own op=some (.mnext y)):∃x,op=.next x false/\bG x=some y:=by
 cases op
 case next x isS =>
  simp only[iE]at h;split at h
  .simp only[alS]at h;obtain⟨_,_,h⟩:=h;cases h
  .rename_i hS;simp only[alS,LOp.mnext.injEq]at h;obtain⟨_,h1,rfl⟩:=h;exact⟨x,by rw[show isS=false by simpa using hS],h1⟩
 case makeMap t r =>
  cases r with
  |some x=>simp[iE]at h
  | none =>
    simp only[iE]at h;split at h<;>cases h
 all_goals (exfalso;simp only[iE]at h;try (cases h;done))
 case binOp=>have:=adO h;cases this
 case convert x=>simp only[ani]at h;obtain⟨_,_,h⟩:=h;have:=abr h;cases this
 case call c =>
  split at h<;>try cases h
  split at h<;>try cases h
  .simp only[alS]at h;obtain⟨_,_,h⟩:=h;cases h
  .have:=WN h;cases this
 all_goals
  repeat' split at h
  all_goals (first|cases h|(simp only[alS]at h;obtain⟨_,_,h⟩:=h;cases h))
theorem UV{own:Nat->Nat->Nat}{Q:Exit->Tm->List Blk->Prop}{d t i j since last ck:Nat}{rest:List SOp}{mask:List Bool}{seen:List Nat}{es:List (AV×AV×Nat)}(hok:(okS rest&&(gds rest).isEmpty)=true)(ht:aq T t=some (.ptr i 0))(hi:L[i]?=some (.miter (some j) since seen last))(hj:L[j]?=some (.map es ck))(hold:∀e∈es,e.2.2<since)(hsc:since<=last)(h0:(∀e∈es,seen.contains e.2.2=true)->SL P rest (WD mask (Q .normal)) ((d,.tup [.bool false])::T) L)(h1:∀e∈es,seen.contains e.2.2=false->SL P rest (WD mask (Q .normal)) ((d,.tup [.bool true,e.1,e.2.1])::T) (L.set i (.miter (some j) since (seen++[e.2.2]) ck))):
  AW P N own (.sreg (.op ⟨some d,.mnext (.tmp t),none⟩::rest) mask) Q T L:=λc hc ro hro w0 S0 E a w hst=>by
 obtain⟨id,os,rfl,hlo⟩:=Pq hc;rw[alx]at hok;refine wpIn_region ?_;generalize List.range os.size=is at hlo⊢;cases is with
 |nil=>simp[ce,SOp.flatL,SOp.flat]at hlo
 | cons i0 is =>
   simp only[SOp.flatL,SOp.flat,al3,al2,ce]at hlo;split at hlo<;>try cases hlo
   rename_i lo los' e1 e2;obtain⟨o,ho,hop,hdst,hd,hg⟩:=gA e1;simp only at hop hdst hg;rcases hg with⟨g1,_⟩|⟨_,_,_,_,_,_,g4⟩
   .simp only[wpOpsIn,ho];rw[if_pos (by simp[Region.wanted,g1])];have hop':iE P (own id i0) o.op=some (.mnext (.tmp t)):=by
     rcases hq:iE P (own id i0) o.op with _|x
     .rw[hq]at hop;cases hop
     .rw[hq]at hop;simp only[amj]at hop;rw[hop]
    obtain⟨x,hx,hlx⟩:=abq hop';obtain⟨hR,hT,hN,hdf⟩:=hst;have hv:=ai hlx (show evX T (.tmp t)=some (.ptr i 0)from ht) hT;obtain⟨r,hr,E',v,w',hrun,hle,hvr,hR'⟩:=WQ (P:=P) (t:=o.type) hR hi hj hv hold hsc;have hnd:∀c,o.op≠.defer c:=λc e=>by rw[hx]at e;cases e
    refine⟨λ_ _=>trivial,?_⟩;rw[Oper.semAt_plain _ _ _ hnd];have hex:(execOp a.eval o).run P w=.ok (.value v) w':=by obtain⟨od,oop,oty,opos,oafter,oguard⟩:=o;simp only at hx hrun;subst hx;show(do pure (Next.value (<- Instr.next (a.eval x) false oty)):Sem Next).run P w=_;simp[hrun]
    rw[hex,Oper.uponIn_value];have hst':St w0 S0 N E' (cM (some d) (O8 r) T) (Xz L i j since seen ck r) (a.put o.dst v) w':=⟨hR',by rw[hdst];exact(hT.mono hle).putT (λk hk=>by rw[hN];exact hd k (by rw[hdst];exact hk)) hvr,by rw[Vg];exact hN,by rw[Pj];exact hdf⟩;have hfr:Fr (gds rest) (cM (some d) (O8 r) T):=λk hk=>by rw[List.isEmpty_iff.1 hok.2]at hk;cases hk
    have hSL:SL P rest (WD mask (Q .normal)) (cM (some d) (O8 r) T) (Xz L i j since seen ck r):=by
     cases r with
     |none=>exact h0 hr
     |some e=>exact h1 e hr.1 hr.2
    refine Gj rest hok.1 e2 hst' hfr hSL λE'' T' L' a' w'' q2 q3 q4=>⟨w0,S0,E'',sel mask T',L',.refl _ _,hle.trans q2,q3.2,q4.weak (λt v hv=>KX q3.1 hv) rfl λ_ _ e=>.inr e⟩
   .cases g4
end
section
variable {κ υ:Type}{ka:κ->AV}{va:υ->AV}
abbrev bp(κ υ:Type):=κ×υ×Nat
def Gb(ka:κ->AV)(va:υ->AV)(e:bp κ υ):AV×AV×Nat:=(ka e.1,va e.2.1,e.2.2)
def be(ka:κ->AV)(va:υ->AV)(xs:List (bp κ υ)):List (AV×AV×Nat):=xs.map (Gb ka va)
structure di(xs:List (bp κ υ))(ck:Nat):Prop where
 keys:(xs.map (·.1)).Nodup
 born:(xs.map (·.2.2)).Nodup
 lt:∀p∈xs,p.2.2<ck
theorem di.nil:di ([]:List (bp κ υ)) 0:=⟨anV,anV,λ_ h=>by cases h⟩
theorem di.add{xs:List (bp κ υ)}{ck:Nat}(h:di xs ck){k:κ}{w:υ}(ht:k∉xs.map (·.1)):di (xs++[(k,w,ck)]) (ck+1):=by refine⟨?_,?_,λp hp=>?_⟩;rw[alW,an3];exact⟨h.keys,aoK,λa ha b hb e=>ht (by simp at hb;rw[<- hb,<- e];exact ha)⟩;rw[alW,an3];refine⟨h.born,aoK,λa ha b hb e=>?_⟩;obtain⟨p,hp,rfl⟩:=alt.1 ha;have:=h.lt p hp;simp at hb;omega;rcases alv.1 hp with hp|hp;have:=h.lt p hp;omega;rw[alM.1 hp];exact Nat.lt_succ_self _
theorem di.filter{xs:List (bp κ υ)}{ck:Nat}(h:di xs ck)(q:bp κ υ->Bool):di (xs.filter q) ck :=
 ⟨h.keys.sublist (List.filter_sublist.map _),h.born.sublist (List.filter_sublist.map _),λp hp=>h.lt p (alZ.1 hp).1⟩
theorem af4{xs:List (bp κ υ)}{p:bp κ υ}{ck:Nat}{seen:List Nat}(hb:(xs.map (·.2.2)).Nodup)(hp:p∈xs):mat (be ka va xs) ck (seen++[p.2.2]) ck=some (ka p.1,va p.2.1,p.2.2):=by
 have key:∀xs:List (bp κ υ),(xs.map (·.2.2)).Nodup->p∈xs->(be ka va xs).find? (λe=>Nat.beq e.2.2 p.2.2)=some (Gb ka va p):=by
  intro xs;induction xs with
  |nil=>intro _ h;cases h
  | cons x xs ih =>
    intro hn h;rw[alD,amm]at hn;simp only[be,alD,amF];rcases alu.1 h with h|h
    .subst h;simp[Gb]
    .have hne:x.2.2≠p.2.2:=λe=>hn.1 (alt.2 ⟨p,h,e.symm⟩)
     have hbq:Nat.beq x.2.2 p.2.2=false:=by
      cases hh:Nat.beq x.2.2 p.2.2 with
      |false=>rfl
      |true=>exact absurd (aou hh) hne
     rw[show Nat.beq (Gb ka va x).2.2 p.2.2=false from hbq];exact ih hn.2 h
 simp only[mat,List.getLast?_append,List.getLast?_singleton,Option.some_or,if_true];exact key xs hb hp
end
variable {em:List (bp Int (List Atr))}
section
variable {κ υ:Type}[DecidableEq κ]{ka:κ->AV}{va:υ->AV}
def WG(ka:κ->AV):Prop:=∀a b,xp (ka a) (ka b)=some (decide (a=b))
def cO(xs:List (bp κ υ))(k:κ):Option υ:=(xs.find? λe=>decide (e.1=k)).map (·.2.1)
def tJ(xs:List (bp κ υ))(k:κ)(w:υ):List (bp κ υ):=xs.map λe=>if e.1=k then(k,w,e.2.2)else e
def iH(xs:List (bp κ υ))(k:κ):List (bp κ υ):=xs.filter λe=>decide (e.1≠k)
def rF(xs:List (bp κ υ))(k:κ)(w:υ)(ck:Nat):List (bp κ υ):=if k∈xs.map (·.1)then tJ xs k w else xs++[(k,w,ck)]
theorem W8{xs:List (bp κ υ)}{k:κ}{w:υ}:(tJ xs k w).map (·.1)=xs.map (·.1):=by
 unfold tJ;rw[al0];refine am5 λe _=>?_
 simp only[aon];split;rename_i h;exact h.symm;rfl
theorem W9{xs:List (bp κ υ)}{k:κ}{w:υ}:(tJ xs k w).map (·.2.2)=xs.map (·.2.2):=by
 unfold tJ;rw[al0];refine am5 λe _=>?_
 simp only[aon];split<;>rfl
theorem di.upd{xs:List (bp κ υ)}{ck:Nat}(h:di xs ck){k:κ}{w:υ}:di (tJ xs k w) ck:=by
 refine⟨by rw[W8];exact h.keys,by rw[W9];exact h.born,λp hp=>?_⟩;have:p.2.2∈xs.map (·.2.2):=by rw[<- W9 (k:=k) (w:=w)];exact alt.2 ⟨p,hp,rfl⟩
 obtain⟨q,hq,e⟩:=alt.1 this;rw[<- e];exact h.lt q hq
theorem xv{xs:List (bp κ υ)}{k:κ}:cO xs k=none↔k∉xs.map (·.1):=by unfold cO;rw[Option.map_eq_none_iff,aok];constructor;intro h hm;obtain⟨e,he,q⟩:=alt.1 hm;exact h e he (decide_eq_true q);intro h e he q;exact h (alt.2 ⟨e,he,of_decide_eq_true q⟩)
theorem iF{xs:List (bp κ υ)}{k:κ}{w:υ}(h:cO xs k=some w):∃b,(k,w,b)∈xs:=by unfold cO at h;obtain⟨⟨k',w',b⟩,h1,h2⟩:=alS.1 h;have e:=an7 h1;simp only[decide_eq_true_eq]at e h2;subst e;subst h2;exact⟨b,anS h1⟩
theorem xj{xs:List (bp κ υ)}(hn:(xs.map (·.1)).Nodup){e:bp κ υ}(h:e∈xs):cO xs e.1=some e.2.1:=by
 induction xs with
 |nil=>cases h
 | cons x t ih =>
   rw[alD,amm]at hn;unfold cO;rw[amF];rcases alu.1 h with rfl|h
   .simp
   .have hne:x.1≠e.1:=λq=>hn.1 (alt.2 ⟨e,h,q.symm⟩)
    rw[decide_eq_false hne];exact ih hn.2 h
theorem agJ{xs:List (bp κ υ)}{k j:κ}{w:υ}(hk:k∈xs.map (·.1)):cO (tJ xs k w) j=if j=k then some w else cO xs j:=by
 induction xs with
 |nil=>cases hk
 | cons x t ih =>
   have hu:tJ (x::t) k w=(if x.1=k then(k,w,x.2.2)else x)::tJ t k w:=rfl;by_cases hx:x.1=k
   .rw[hu,if_pos hx];unfold cO;rw[amF,amF];by_cases hj:j=k
    .subst hj;simp
    .have h1:decide (k=j)=false:=decide_eq_false λe=>hj e.symm
     have h2:decide (x.1=j)=false:=decide_eq_false λe=>hj (by rw[<- e,hx])
     simp only[h1,h2,if_neg hj];by_cases hk2:k∈t.map (·.1)
     .have:=ih hk2;rw[if_neg hj]at this;exact this
     .have hs:tJ t k w=t:=by unfold tJ;refine(am5 λe he=>?_).trans (List.map_id t);rw[if_neg λq=>hk2 (alt.2 ⟨e,he,q⟩)];rfl
      rw[hs]
   .rw[hu,if_neg hx];have hk2:k∈t.map (·.1):=by rw[alD,alu]at hk;exact hk.resolve_left λe=>hx e.symm
    have:=ih hk2;unfold cO at this⊢;rw[amF,amF];by_cases hj:x.1=j
    .subst hj;simp only[decide_true,if_neg hx,alL]
    .rw[decide_eq_false hj];exact this
theorem Kf{xs:List (bp κ υ)}{k j:κ}{w:υ}{ck:Nat}(hk:k∉xs.map (·.1)):cO (xs++[(k,w,ck)]) j=if j=k then some w else cO xs j:=by
 unfold cO;rw[List.find?_append];by_cases hj:j=k;subst hj;have:xs.find? (λe=>decide (e.1=j))=none:=aok.2 λe he=>by simp only[decide_eq_true_eq];exact λq=>hk (alt.2 ⟨e,he,q⟩)
 rw[this];simp;have h1:decide (k=j)=false:=decide_eq_false λe=>hj e.symm
 rw[if_neg hj];cases hf:xs.find? (λe=>decide (e.1=j))with
 |none=>simp[amF,h1]
 |some v=>simp
theorem agK{xs:List (bp κ υ)}{k j:κ}{w:υ}{ck:Nat}:cO (rF xs k w ck) j=if j=k then some w else cO xs j:=by unfold rF;split;rename_i h;exact agJ h;rename_i h;exact Kf h
theorem Ke{xs:List (bp κ υ)}{k j:κ}:cO (iH xs k) j=if j=k then none else cO xs j:=by
 by_cases hj:j=k;subst hj;rw[if_pos rfl,xv];intro h;obtain⟨e,he,q⟩:=alt.1 h;have:=(alZ.1 he).2;simp only[ne_eq,decide_eq_true_eq]at this;exact this q;rw[if_neg hj];induction xs with
 |nil=>rfl
 | cons x t ih =>
   unfold iH cO at ih⊢;rw[anE,amF];by_cases hx:x.1=k
   .have h1:decide (x.1=j)=false:=decide_eq_false λe=>hj (by rw[<- e,hx])
    rw[if_neg (by simp[hx]),h1];exact ih
   .rw[if_pos (by simp[hx]),amF];by_cases h2:x.1=j
    .rw[decide_eq_true h2]
    .rw[decide_eq_false h2];exact ih
theorem sa(hka:WG ka):∀{xs:List (bp κ υ)}{k:κ}(i:Nat),(xs.map (·.1)).Nodup->k∈xs.map (·.1)->∃j w,cO xs k=some w/\eI (ka k) (be ka va xs) i=some (some (i+j,va w))/\(∀u,Yw (ka k) (va u) (be ka va xs) j=be ka va (tJ xs k u))/\(be ka va xs).eraseIdx j=be ka va (iH xs k)
 |[],k,i,_,h=>by cases h
 | x::xs,k,i,hn,h=>by
   rw[alD,amm]at hn;by_cases e:k=x.1
   .subst e;have hf:iH xs x.1=xs:=anO.2 λp hp=>by
     have:p.1≠x.1:=λe=>hn.1 (alt.2 ⟨p,hp,e⟩)
     simpa using this
    have hu:∀u,tJ xs x.1 u=xs:=λu=>by unfold tJ;refine(am5 λp hp=>?_).trans (List.map_id xs);rw[if_neg λq=>hn.1 (alt.2 ⟨p,hp,q⟩)];rfl
    refine⟨0,x.2.1,?_,?_,λu=>?_,?_⟩
    .simp[cO]
    .simp only[be,alD,Gb,eI,hka x.1 x.1,decide_true];rfl
    .have:tJ (x::xs) x.1 u=(x.1,u,x.2.2)::tJ xs x.1 u:=(by simp[tJ]);rw[this,hu];simp only[be,alD,Gb,Yw]
    .have:iH (x::xs) x.1=iH xs x.1:=(by simp[iH]);rw[this,hf];simp only[be,alD,List.eraseIdx_zero,List.tail_cons]
   .have ht:k∈xs.map (·.1):=by rw[alD,alu]at h;exact h.resolve_left e
    have e':x.1≠k:=λq=>e q.symm
    obtain⟨j,w,h0,h1,h2,h3⟩:=sa hka (i+1) hn.2 ht;refine⟨j+1,w,?_,?_,λu=>?_,?_⟩
    .unfold cO at h0⊢;rw[amF,decide_eq_false e'];exact h0
    .simp only[be,alD,Gb,eI,hka k x.1,decide_eq_false e];rw[show i+(j+1)=i+1+j by omega];exact h1
    .have:tJ (x::xs) k u=x::tJ xs k u:=(by simp[tJ,e']);rw[this];simp only[be,alD,Yw];exact congrArg _ (h2 u)
    .have:iH (x::xs) k=x::iH xs k:=(by simp[iH,e']);rw[this];simp only[be,alD,List.eraseIdx_cons_succ];exact congrArg _ h3
theorem SV(hka:WG ka):∀{xs:List (bp κ υ)}{k:κ}(i:Nat),k∉xs.map (·.1)->eI (ka k) (be ka va xs) i=some none
 |[],k,i,h=>rfl
 |x::xs,k,i,h=>by rw[alD,alu,not_or]at h;simp only[be,alD,Gb,eI,hka k x.1,decide_eq_false h.1];exact SV hka (i+1) h.2
end
theorem tD:WG (AV.int .i64):=λa b=>by simp[xp]
theorem rm:WG AV.str:=λa b=>by simp[xp]
def qn(k:List UInt8×Bool×List UInt8):AV:=.agg [.str k.1,.bool k.2.1,.str k.2.2]
theorem xq:WG qn:=λa b=>by obtain⟨a1,a2,a3⟩:=a;obtain⟨b1,b2,b3⟩:=b;simp only[qn,xp,xo,T9];by_cases h1:a1=b1<;>by_cases h2:a2=b2<;>by_cases h3:a3=b3<;>simp[h1,h2,h3]
abbrev mF(xs:List (bp Int Bool))(ck:Nat):Blk:=.map (be (AV.int .i64) AV.bool xs) ck
def sw(L:List Blk)(b:Nat)(P:Int->Prop):Prop:=∃(xs:List (bp Int Bool)) (ck:Nat),L[b]?=some (mF xs ck)/\di xs ck/\(∀e∈xs,e.2.1=true)/\∀x,x∈xs.map (·.1)↔P x
theorem sw.keep(h:sw L b P)(e:L'[b]?=L[b]?):sw L' b P:=by obtain⟨xs,ck,h1,h2,h3,h4⟩:=h;exact⟨xs,ck,by rw[e];exact h1,h2,h3,h4⟩
theorem sw.iff{Q:Int->Prop}(h:sw L b P)(e:∀x,P x↔Q x):sw L b Q:=by obtain⟨xs,ck,h1,h2,h3,h4⟩:=h;exact⟨xs,ck,h1,h2,h3,λx=>(h4 x).trans (e x)⟩
def ckS(xs:List (bp Int Bool))(id:Int)(ck:Nat):Nat:=if id∈xs.map (·.1)then ck else ck+1
theorem ah5[DecidableEq κ]{xs:List (bp κ υ)}(h:di xs ck){k:κ}{w:υ}:di (rF xs k w ck) (if k∈xs.map (·.1)then ck else ck+1):=by unfold rF;split;exact h.upd;rename_i e;exact h.add e
theorem ads[DecidableEq κ]{xs:List (bp κ υ)}{k:κ}{w:υ}{x:κ}:x∈(rF xs k w ck).map (·.1)↔x∈xs.map (·.1)\/x=k:=by unfold rF;split;rename_i h;rw[W8];exact⟨.inl,λe=>e.elim id λq=>q▸h⟩;rw[alW,alv];simp
theorem X2[DecidableEq κ]{xs:List (bp κ υ)}{k x:κ}:x∈(iH xs k).map (·.1)↔x∈xs.map (·.1)/\x≠k:=by unfold iH;simp only[alt,alZ,ne_eq,decide_eq_true_eq];constructor;rintro⟨e,⟨h1,h2⟩,rfl⟩;exact⟨⟨e,h1,rfl⟩,h2⟩;rintro⟨⟨e,h1,rfl⟩,h2⟩;exact⟨e,⟨h1,h2⟩,rfl⟩
theorem sw.add{xs:List (bp Int Bool)}(hb:L[b]?=some (mF xs ck))(h:sw L b P)(id:Int)(hm:di xs ck)(ht:∀e∈xs,e.2.1=true)(hp:∀x,x∈xs.map (·.1)↔P x):sw (L.set b (mF (rF xs id true ck) (ckS xs id ck))) b λx=>P x\/x=id:=by refine⟨rF xs id true ck,ckS xs id ck,?_,ah5 hm,λe he=>?_,λx=>?_⟩;rw[amn (alq.1 hb).1];unfold rF at he;split at he;unfold tJ at he;obtain⟨q,hq,rfl⟩:=alt.1 he;split;rfl;exact ht q hq;rcases alv.1 he with he|he;exact ht e he;rw[alM.1 he];rw[ads,hp]
theorem sw.del{xs:List (bp Int Bool)}(hb:L[b]?=some (mF xs ck))(id:Int)(hm:di xs ck)(ht:∀e∈xs,e.2.1=true)(hp:∀x,x∈xs.map (·.1)↔P x):sw (L.set b (mF (iH xs id) ck)) b λx=>P x/\x≠id:=by refine⟨iH xs id,ck,?_,hm.filter _,λe he=>ht e (alZ.1 he).1,λx=>?_⟩;rw[amn (alq.1 hb).1];rw[X2,hp]
abbrev tyV(ty:Typ):AV:=.agg (tyC ty)
abbrev atV(a:List Atr):AV:=.sl (bc a) a.length none
abbrev aaY(m:List (bp (List UInt8) Typ))(c:Nat):Blk:=.map (be AV.str tyV m) c
abbrev agV(m:List (bp Int (List Atr)))(c:Nat):Blk:=.map (be (AV.int .i64) atV m) c
abbrev afE(m:List (bp (List UInt8) Nat))(c:Nat):Blk:=.map (be AV.str AV.lmap m) c
abbrev YH(m:List (bp ba Nat))(c:Nat):Blk:=.map (be qn AV.lmap m) c
structure IxH(L:List Blk)(it im ie ip ii:Nat)(tm:List (bp (List UInt8) Typ))(tc:Nat)(em:List (bp Int (List Atr)))(ec:Nat)(pm:List (bp (List UInt8) Nat))(pc:Nat)(dm:List (bp ba Nat))(dc:Nat)(Q:List UInt8->Int->Prop)(R:ba->Int->Prop):Prop where
 st:L[it]?=some (.cells [.lmap im,.lmap ie,.lmap ip,.lmap ii])
 ty:L[im]?=some (aaY tm tc)
 en:L[ie]?=some (agV em ec)
 pr:L[ip]?=some (afE pm pc)
 ids:L[ii]?=some (YH dm dc)
 tok:di tm tc
 eok:di em ec
 pok:di pm pc
 dok:di dm dc
 pk:∀f,f∈pm.map (·.1)↔f∈tm.map (·.1)
 ps:∀f b,cO pm f=some b->sw L b (Q f)
 ds:∀k b,cO dm k=some b->sw L b (R k)
 dn:∀k,cO dm k=none->∀x,¬R k x
 nd:(it::im::ie::ip::ii::(pm.map (·.2.1)++dm.map (·.2.1))).Nodup
section
variable {L L':List Blk}{it im ie ip ii:Nat}{tm:List (bp (List UInt8) Typ)}{tc:Nat}{em:List (bp Int (List Atr))}{ec:Nat}{pm:List (bp (List UInt8) Nat)}{pc:Nat}{dm:List (bp ba Nat)}{dc:Nat}{Q:List UInt8->Int->Prop}{R:ba->Int->Prop}
theorem x9{f:List UInt8}{b:Nat}(h:cO pm f=some b):b∈pm.map (·.2.1):=by obtain⟨c,h⟩:=iF h;exact alt.2 ⟨_,h,rfl⟩
theorem tL{k:ba}{b:Nat}(h:cO dm k=some b):b∈dm.map (·.2.1):=by obtain⟨c,h⟩:=iF h;exact alt.2 ⟨_,h,rfl⟩
theorem IxH.keep(h:IxH L it im ie ip ii tm tc em ec pm pc dm dc Q R)(e:∀i∈it::im::ie::ip::ii::(pm.map (·.2.1)++dm.map (·.2.1)),L'[i]?=L[i]?):IxH L' it im ie ip ii tm tc em ec pm pc dm dc Q R :=
 ⟨by rw[e it aoK];exact h.st,by rw[e im aoK];exact h.ty,by rw[e ie aoK];exact h.en,by rw[e ip aoK];exact h.pr,by rw[e ii aoK];exact h.ids,h.tok,h.eok,h.pok,h.dok,h.pk,
  λf b q=>(h.ps f b q).keep (e b (by simp only[alu,alv];exact .inr (.inr (.inr (.inr (.inr (.inl (x9 q)))))))),
  λk b q=>(h.ds k b q).keep (e b (by simp only[alu,alv];exact .inr (.inr (.inr (.inr (.inr (.inr (tL q)))))))),h.dn,h.nd⟩
theorem IxH.lt(h:IxH L it im ie ip ii tm tc em ec pm pc dm dc Q R):∀i∈it::im::ie::ip::ii::(pm.map (·.2.1)++dm.map (·.2.1)),i<L.length:=by
 intro i hi;simp only[alu,alv]at hi;have g:∀{i:Nat}{b:Blk},L[i]?=some b->i<L.length:=λq=>(alq.1 q).1
 rcases hi with rfl|rfl|rfl|rfl|rfl|hi|hi;exact g h.st;exact g h.ty;exact g h.en;exact g h.pr;exact g h.ids;obtain⟨e,he,rfl⟩:=alt.1 hi;obtain⟨xs,ck,q,_⟩:=h.ps e.1 e.2.1 (xj h.pok.keys he);exact g q;obtain⟨e,he,rfl⟩:=alt.1 hi;obtain⟨xs,ck,q,_⟩:=h.ds e.1 e.2.1 (xj h.dok.keys he);exact g q
theorem IxH.more(h:IxH L it im ie ip ii tm tc em ec pm pc dm dc Q R)(X:List Blk):IxH (L++X) it im ie ip ii tm tc em ec pm pc dm dc Q R :=
 h.keep λi hi=>aly (h.lt i hi)
theorem IxH.iff{Q':List UInt8->Int->Prop}{R':ba->Int->Prop}(h:IxH L it im ie ip ii tm tc em ec pm pc dm dc Q R)(hq:∀f x,f∈tm.map (·.1)->(Q f x↔Q' f x))(hr:∀k x,R k x↔R' k x):IxH L it im ie ip ii tm tc em ec pm pc dm dc Q' R' :=
 ⟨h.st,h.ty,h.en,h.pr,h.ids,h.tok,h.eok,h.pok,h.dok,h.pk,λf b q=>(h.ps f b q).iff λx=>hq f x ((h.pk f).1 (by obtain⟨c,m⟩:=iF q;exact alt.2 ⟨_,m,rfl⟩)),λk b q=>(h.ds k b q).iff λx=>hr k x,λk q x=>λr=>h.dn k q x ((hr k x).2 r),h.nd⟩
theorem afN{κ:Type}[DecidableEq κ]{xs:List (bp κ Nat)}(hn:(xs.map (·.2.1)).Nodup){f g:κ}{b:Nat}(h1:cO xs f=some b)(h2:cO xs g=some b):f=g:=by
 obtain⟨c,m1⟩:=iF h1;obtain⟨d,m2⟩:=iF h2;have:∀{l:List (bp κ Nat)},(l.map (·.2.1)).Nodup->∀{x y:bp κ Nat},x∈l->y∈l->x.2.1=y.2.1->x=y:=by
  intro l;induction l with
  |nil=>intro _ x y hx;cases hx
  | cons a l ih =>
    intro hn x y hx hy e;rw[alD,amm]at hn;rcases alu.1 hx with h1|h1<;>rcases alu.1 hy with h2|h2
    .rw[h1,h2]
    .exact absurd (alt.2 ⟨y,h2,by rw[<- e,h1]⟩) hn.1
    .exact absurd (alt.2 ⟨x,h1,by rw[e,h2]⟩) hn.1
    .exact ih hn.2 h1 h2 e
 exact congrArg (·.1) (this hn m1 m2 rfl)
theorem IxH.ne(h:IxH L it im ie ip ii tm tc em ec pm pc dm dc Q R):(pm.map (·.2.1)).Nodup/\(dm.map (·.2.1)).Nodup/\(∀b∈pm.map (·.2.1),b∉dm.map (·.2.1)/\b≠it/\b≠im/\b≠ie/\b≠ip/\b≠ii)/\(∀b∈dm.map (·.2.1),b≠it/\b≠im/\b≠ie/\b≠ip/\b≠ii)/\it≠im/\it≠ie/\it≠ip/\it≠ii/\im≠ie/\im≠ip/\im≠ii/\ie≠ip/\ie≠ii/\ip≠ii:=by have hnd:=h.nd;obtain⟨A,hA⟩:=alj (pm.map (·.2.1));obtain⟨B,hB⟩:=alj (dm.map (·.2.1));rw[hA,hB]at hnd⊢;simp only[amm,alu,alv,not_or,an3]at hnd;obtain⟨⟨a1,a2,a3,a4,a5,a6⟩,⟨b1,b2,b3,b4,b5⟩,⟨c1,c2,c3,c4⟩,⟨d1,d2,d3⟩,⟨e1,e2⟩,f1,f2,f3⟩:=hnd;refine⟨f1,f2,λb hb=>⟨λq=>f3 b hb b q rfl,?_,?_,?_,?_,?_⟩,λb hb=>⟨?_,?_,?_,?_,?_⟩,a1,a2,a3,a4,b1,b2,b3,c1,c2,d1⟩<;>(rintro rfl;first|exact a5 hb|exact a6 hb|exact b4 hb|exact b5 hb|exact c3 hb|exact c4 hb|exact d2 hb|exact d3 hb|exact e1 hb|exact e2 hb)
theorem IxH.pmSet(h:IxH L it im ie ip ii tm tc em ec pm pc dm dc Q R){f:List UInt8}{b:Nat}(hf:cO pm f=some b){k:Blk}{P:Int->Prop}(hb:sw (L.set b k) b P):IxH (L.set b k) it im ie ip ii tm tc em ec pm pc dm dc (λg x=>if g=f then P x else Q g x) R:=by
 obtain⟨n1,n2,n3,n4,_⟩:=h.ne;obtain⟨m1,m2,m3,m4,m5,m6⟩:=n3 b (x9 hf);have e:∀{i:Nat},b≠i->(L.set b k)[i]?=L[i]?:=λq=>alP q
 refine⟨by rw[e m2];exact h.st,by rw[e m3];exact h.ty,by rw[e m4];exact h.en,by rw[e m5];exact h.pr,by rw[e m6];exact h.ids,h.tok,h.eok,h.pok,h.dok,h.pk,λg c q=>?_,λj c q=>(h.ds j c q).keep (e λw=>m1 (by rw[w];exact tL q)),h.dn,h.nd⟩;by_cases hg:g=f;subst hg;rw[hf]at q;cases q;exact hb.iff λx=>by rw[if_pos rfl]
 exact((h.ps g c q).keep (e λw=>hg (afN n1 (w▸q) hf))).iff λx=>by rw[if_neg hg]
theorem IxH.dmSet(h:IxH L it im ie ip ii tm tc em ec pm pc dm dc Q R){j:ba}{b:Nat}(hf:cO dm j=some b){k:Blk}{P:Int->Prop}(hb:sw (L.set b k) b P):IxH (L.set b k) it im ie ip ii tm tc em ec pm pc dm dc Q (λg x=>if g=j then P x else R g x):=by
 obtain⟨n1,n2,n3,n4,_⟩:=h.ne;obtain⟨m2,m3,m4,m5,m6⟩:=n4 b (tL hf);have e:∀{i:Nat},b≠i->(L.set b k)[i]?=L[i]?:=λq=>alP q
 refine⟨by rw[e m2];exact h.st,by rw[e m3];exact h.ty,by rw[e m4];exact h.en,by rw[e m5];exact h.pr,by rw[e m6];exact h.ids,h.tok,h.eok,h.pok,h.dok,h.pk,λg c q=>(h.ps g c q).keep (e λw=>(n3 c (x9 q)).1 (by rw[<- w];exact tL hf)),λg c q=>?_,λg q x=>?_,h.nd⟩;by_cases hg:g=j;subst hg;rw[hf]at q;cases q;exact hb.iff λx=>by rw[if_pos rfl]
 exact((h.ds g c q).keep (e λw=>hg (afN n2 (w▸q) hf))).iff λx=>by rw[if_neg hg]
 have hg:g≠j:=λw=>by rw[w,hf]at q;cases q
 rw[if_neg hg];exact h.dn g q x
theorem IxH.dmNew(h:IxH L it im ie ip ii tm tc em ec pm pc dm dc Q R){j:ba}(hf:cO dm j=none):IxH ((L++[mF [] 0]).set ii (YH (dm++[(j,L.length,dc)]) (dc+1))) it im ie ip ii tm tc em ec pm pc (dm++[(j,L.length,dc)]) (dc+1) Q R:=by
 obtain⟨n1,n2,n3,n4,a1,a2,a3,a4,b1,b2,b3,c1,c2,d1⟩:=h.ne;have hj:=xv.1 hf;have hlt:=h.lt;have hii:ii<L.length:=hlt ii aoK;have e:∀{i:Nat},ii≠i->i<L.length->((L++[mF [] 0]).set ii (YH (dm++[(j,L.length,dc)]) (dc+1)))[i]?=L[i]?:=λq r=>by rw[alP q,aly r]
 have g:∀{i:Nat}{b:Blk},L[i]?=some b->i<L.length:=λq=>(alq.1 q).1
 refine⟨by rw[e a4.symm (g h.st)];exact h.st,by rw[e b3.symm (g h.ty)];exact h.ty,by rw[e c2.symm (g h.en)];exact h.en,by rw[e d1.symm (g h.pr)];exact h.pr,?_,h.tok,h.eok,h.pok,h.dok.add hj,h.pk,λf c q=>?_,λk c q=>?_,λk q x=>?_,?_⟩;rw[amn (by simp;omega)];have hc:=x9 q;exact(h.ps f c q).keep (e (n3 c hc).2.2.2.2.2.symm (hlt c (by simp only[alu,alv];exact .inr (.inr (.inr (.inr (.inr (.inl hc))))))));rw[Kf hj]at q;by_cases hk:k=j;subst hk;rw[if_pos rfl]at q;cases q;refine⟨[],0,?_,di.nil,(λe he=>by cases he),λx=>?_⟩;rw[alP aoJ,alT (alr _)];simp;constructor;intro hx;cases hx;intro hx;exact absurd hx (h.dn k hf x);rw[if_neg hk]at q;have hc:=tL q;exact(h.ds k c q).keep (e (n4 c hc).2.2.2.2.symm (hlt c (by simp only[alu,alv];exact .inr (.inr (.inr (.inr (.inr (.inr hc))))))));rw[Kf hj]at q;by_cases hk:k=j;rw[if_pos hk]at q;cases q;rw[if_neg hk]at q;exact h.dn k q x;have hn:L.length∉it::im::ie::ip::ii::(pm.map (·.2.1)++dm.map (·.2.1)):=λq=>absurd (hlt _ q) aoJ
 have hp:(it::im::ie::ip::ii::(pm.map (·.2.1)++(dm++[(j,L.length,dc)]).map (·.2.1)))=(it::im::ie::ip::ii::(pm.map (·.2.1)++dm.map (·.2.1)))++[L.length]:=aoK;rw[hp,an3];exact⟨h.nd,aoK,λa ha b hb w=>hn (by rw[alM.1 hb]at w;rw[<- w];exact ha)⟩
theorem IxH.dmDel(h:IxH L it im ie ip ii tm tc em ec pm pc dm dc Q R){j:ba}(hj:∀x,¬R j x):IxH (L.set ii (YH (iH dm j) dc)) it im ie ip ii tm tc em ec pm pc (iH dm j) dc Q R:=by
 obtain⟨n1,n2,n3,n4,a1,a2,a3,a4,b1,b2,b3,c1,c2,d1⟩:=h.ne;have hii:ii<L.length:=h.lt ii aoK;have e:∀{i:Nat},ii≠i->(L.set ii (YH (iH dm j) dc))[i]?=L[i]?:=λq=>alP q
 refine⟨by rw[e a4.symm];exact h.st,by rw[e b3.symm];exact h.ty,by rw[e c2.symm];exact h.en,by rw[e d1.symm];exact h.pr,amn hii,h.tok,h.eok,h.pok,h.dok.filter _,h.pk,λf c q=>(h.ps f c q).keep (e (n3 c (x9 q)).2.2.2.2.2.symm),λk c q=>?_,λk q x=>?_,?_⟩;rw[Ke]at q;by_cases hk:k=j;rw[if_pos hk]at q;cases q;rw[if_neg hk]at q;exact(h.ds k c q).keep (e (n4 c (tL q)).2.2.2.2.symm);rw[Ke]at q;by_cases hk:k=j;subst hk;exact hj x;rw[if_neg hk]at q;exact h.dn k q x;refine List.Pairwise.sublist ?_ h.nd;refine an4 _ (an4 _ (an4 _ (an4 _ (an4 _ ?_))));exact List.Sublist.append (List.Sublist.refl _) (List.Sublist.map _ anw)
theorem IxH.enSet(h:IxH L it im ie ip ii tm tc em ec pm pc dm dc Q R){em':List (bp Int (List Atr))}{ec':Nat}(ho:di em' ec'):IxH (L.set ie (agV em' ec')) it im ie ip ii tm tc em' ec' pm pc dm dc Q R:=by
 obtain⟨n1,n2,n3,n4,a1,a2,a3,a4,b1,b2,b3,c1,c2,d1⟩:=h.ne;have hie:ie<L.length:=h.lt ie aoK;have e:∀{i:Nat},ie≠i->(L.set ie (agV em' ec'))[i]?=L[i]?:=λq=>alP q
 exact⟨by rw[e a2.symm];exact h.st,by rw[e b1.symm];exact h.ty,amn hie,by rw[e c1];exact h.pr,by rw[e c2];exact h.ids,h.tok,ho,h.pok,h.dok,h.pk,λf c q=>(h.ps f c q).keep (e (n3 c (x9 q)).2.2.2.1.symm),λk c q=>(h.ds k c q).keep (e (n4 c (tL q)).2.2.1.symm),h.dn,h.nd⟩
end
def abA(x:Int):List Int->List Int
 |[]=>[x]
 |y::l=>if x<=y then x::y::l else y::abA x l
def eT(l:List Int):List Int:=l.foldr abA []
theorem SR(x:Int):∀l:List Int,(abA x l).Perm (x::l)
 |[]=>.refl _
 | y::l=>by
   unfold abA;split
   .exact .refl _
   .exact((SR x l).cons y).trans (.swap x y l)
theorem df:∀l:List Int,(eT l).Perm l
 |[]=>.refl _
 |x::l=>(SR x _).trans ((df l).cons x)
theorem acJ(x:Int):∀l:List Int,l.Pairwise (·<=·)->(abA x l).Pairwise (·<=·)
 |[],_=>by simp[abA]
 | y::l,h=>by
   have h':=al7.1 h;unfold abA;split
   .rename_i hle;refine al7.2 ⟨λz hz=>?_,h⟩;rcases alu.1 hz with rfl|hz
    .exact hle
    .exact Int.le_trans hle (h'.1 z hz)
   .rename_i hle;refine al7.2 ⟨λz hz=>?_,acJ x l h'.2⟩;rcases alu.1 ((SR x l).mem_iff.1 hz)with rfl|hz
    .omega
    .exact h'.1 z hz
theorem xt:∀l:List Int,(eT l).Pairwise (·<=·)
 |[]=>.nil
 |x::l=>acJ x _ (xt l)
theorem XL(l:List Int):l.mergeSort (λx y=>decide (x<=y))=eT l:=by refine aoo (le:=λa b=>a<=b) (λa b _ _ h1 h2=>Int.le_antisymm h1 h2) ?_ (xt l) ((anK l _).trans (df l).symm);have:=aoz (le:=λx y:Int=>decide (x<=y)) (λa b c h1 h2=>by simp only[decide_eq_true_eq]at *;omega) (λa b=>by simp only[al9,decide_eq_true_eq];omega) l;exact this.imp λh=>by simpa using h
def xV:List (AV×AV×Nat)->Option (List Int)
 |[]=>some []
 |(.int .i64 k,_,_)::l=>(xV l).map (k::·)
 |_=>none
def SJ:List Nat->Bool
 |[]=>true
 |x::l => !l.contains x&&SJ l
def SI:List Int->Bool
 |[]=>true
 |x::l => !l.contains x&&SI l
theorem Xx:∀{l:List Nat},SJ l=true->l.Nodup
 |[],_=>anV
 |x::l,h=>by simp only[SJ,alx,al4,amf,decide_eq_false_iff_not]at h;exact amm.2 ⟨h.1,Xx h.2⟩
theorem Xv:∀{l:List Int},SI l=true->l.Nodup
 |[],_=>anV
 |x::l,h=>by simp only[SI,alx,al4,amf,decide_eq_false_iff_not]at h;exact amm.2 ⟨h.1,Xv h.2⟩
def UN(es:List (AV×AV×Nat))(ck:Nat)(ks:List Int):Bool :=
 ks.all (λk=>decide (-9223372036854775808<=k/\k<=9223372036854775807))&&SI ks&&SJ (es.map (·.2.2))&&es.all (λe=>decide (e.2.2<ck))&&decide (es.length<=1000)
theorem XC{E:Env}:∀{es:List (AV×AV×Nat)}{rs:List MapEntry}{ks:List Int},ay E es rs->xV es=some ks->rs.map (·.key)=ks.map (Value.int .i64)/\rs.map (·.born)=es.map (·.2.2)
 |[],rs,ks,hm,hk=>by simp only[ay]at hm;subst hm;simp only[xV,als]at hk;subst hk;exact⟨rfl,rfl⟩
 | (q,x,b)::es,rs,ks,hm,hk=>by
   simp only[ay]at hm;obtain⟨e,t,rfl,h1,h2,h3,h4⟩:=hm;cases q<;>try (simp[xV]at hk;done)
   rename_i kd k;cases kd<;>simp only[xV,reduceCtorEq,alS]at hk;obtain⟨ks',h5,rfl⟩:=hk;obtain⟨i1,i2⟩:=XC h4 h5;simp only[VR]at h1;exact⟨by simp[h1,i1],by simp[h3,i2]⟩
theorem XB:∀xs:List (bp Int Bool),xV (be (AV.int .i64) AV.bool xs)=some (xs.map (·.1))
 |[]=>rfl
 |x::t=>by have ih:=XB t;unfold be at ih⊢;rw[alD,alD];simp only[Gb,xV,ih,alL]
theorem Xy:∀{l:List Nat},l.Nodup->SJ l=true
 |[],_=>rfl
 |x::l,h=>by rw[amm]at h;simp only[SJ,alx,al4,amf,decide_eq_false_iff_not];exact⟨h.1,Xy h.2⟩
theorem Xw:∀{l:List Int},l.Nodup->SI l=true
 |[],_=>rfl
 |x::l,h=>by rw[amm]at h;simp only[SI,alx,al4,amf,decide_eq_false_iff_not];exact⟨h.1,Xw h.2⟩
theorem Z2{ks l:List Int}(hn:ks.Nodup)(hl:l.Pairwise (· < ·))(h:∀x,x∈ks↔x∈l):eT ks=l:=by
 have hp:=df ks;refine Xj ?_ hl λx=>(hp.mem_iff).trans (h x)
 have hnd:(eT ks).Nodup:=hp.nodup_iff.2 hn;exact(xt ks).imp₂ (λa b h1 h2=>aoJ) hnd
theorem sw.rise(h:sw L b P){l:List Int}(hl:l.Pairwise (· < ·))(hp:∀x,P x↔x∈l)(hi:∀x∈l,-9223372036854775808<=x/\x<=9223372036854775807)(hn:l.length<=1000):
  ∃es ck ks,L[b]?=some (.map es ck)/\xV es=some ks/\UN es ck ks=true/\eT ks=l/\ks.length=l.length:=by
 obtain⟨xs,ck,h1,h2,h3,h4⟩:=h;have hm:∀x,x∈xs.map (·.1)↔x∈l:=λx=>(h4 x).trans (hp x)
 have hs:=Z2 h2.keys hl hm;have hlen:(xs.map (·.1)).length=l.length:=by rw[<- hs];exact(df _).length_eq.symm
 refine⟨_,ck,xs.map (·.1),h1,XB xs,?_,hs,hlen⟩;have e1:(be (AV.int .i64) AV.bool xs).map (·.2.2)=xs.map (·.2.2):=by unfold be;rw[al0];rfl
 unfold UN;rw[e1,Xy h2.born,Xw h2.keys];simp only[alx,aml,anD,alC,decide_eq_true_eq];refine⟨⟨λk hk=>hi k ((hm k).1 hk),λe he=>?_⟩,?_⟩;unfold be at he;obtain⟨q,hq,rfl⟩:=alt.1 he;exact h2.lt q hq;unfold be;rw[al5];rw[al5]at hlen;omega
theorem Xo{x:Int}:x∈mG (cQ id l) f↔x∈mG l f/\x≠id:=by rw[p9,p9];constructor;rintro⟨b,h1,h2⟩;obtain⟨e,e2⟩:=gE.1 h1;exact⟨⟨b,e,h2⟩,e2⟩;rintro⟨⟨b,h1,h2⟩,h3⟩;exact⟨b,gE.2 ⟨h1,h3⟩,h2⟩
def PR(em:List (bp Int (List Atr)))(l:List bt):Prop:=∀id a,cO em id=some a↔(id,a)∈l
theorem PR.nil:PR [] []:=λid a=>by simp[cO]
theorem PR.o(h:PR em l):cO em id=none↔∀a,(id,a)∉l:=by
 constructor;intro q a m;rw[(h id a).2 m]at q;cases q;intro q;cases hg:cO em id with
 |none=>rfl
 |some a=>exact absurd ((h id a).1 hg) (q a)
theorem PR.drop(h:PR em l)(id:Int):PR (iH em id) (cQ id l):=λj a=>by rw[Ke,gE];by_cases hj:j=id;rw[if_pos hj];simp[hj];rw[if_neg hj,h j a];exact⟨λq=>⟨q,hj⟩,λq=>q.1⟩
theorem PR.put(h:PR em (cQ id l))(a:List Atr):PR (rF em id a ck) (J4 id a l):=λj b=>by rw[agK,mj];by_cases hj:j=id;subst hj;rw[if_pos rfl];constructor;intro q;cases q;exact .inl rfl;rintro(q|⟨_,q⟩);cases q;rfl;exact absurd rfl q;rw[if_neg hj,h j b,gE];constructor;rintro⟨q1,q2⟩;exact .inr ⟨q1,q2⟩;rintro(q|⟨q1,q2⟩);cases q;exact absurd rfl hj;exact⟨q1,q2⟩
theorem aeo(h:∀a,(id,a)∉l):cQ id l=l:=by
 unfold cQ;refine anO.2 λe he=>?_
 have:e.1≠id:=λq=>h e.2 (by rw[<- q];exact he)
 simpa using this
def WM(R:ba->Int->Prop)(id:Int)(ks:List ba):ba->Int->Prop:=λk x=>R k x\/(x=id/\k∈ks)
def SX(R:ba->Int->Prop)(id:Int)(ks:List ba):ba->Int->Prop:=λk x=>R k x/\¬(x=id/\k∈ks)
theorem Xn{R:ba->Int->Prop}{j:ba}(k:ba)(x:Int):(if k=j then(WM R id ks j x\/x=id)else WM R id ks k x)↔WM R id (ks++[j]) k x:=by unfold WM;by_cases h:k=j;subst h;rw[if_pos rfl];simp only[alv,alM];constructor;rintro((q|q)|q);exact .inl q;exact .inr ⟨q.1,.inl q.2⟩;exact .inr ⟨q,.inr trivial⟩;rintro(q|⟨q,_⟩);exact .inl (.inl q);exact .inr q;rw[if_neg h];simp only[alv,alM,h,or_false]
theorem SW{R:ba->Int->Prop}{j:ba}(k:ba)(x:Int):(if k=j then(SX R id ks j x/\x≠id)else SX R id ks k x)↔SX R id (ks++[j]) k x:=by unfold SX;by_cases h:k=j;subst h;rw[if_pos rfl];simp only[alv,alM];constructor;rintro⟨⟨q1,q2⟩,q3⟩;exact⟨q1,λw=>q3 w.1⟩;rintro⟨q1,q2⟩;exact⟨⟨q1,λw=>q2 ⟨w.1,.inl w.2⟩⟩,λw=>q2 ⟨w,.inr trivial⟩⟩;rw[if_neg h];simp only[alv,alM,h,or_false]
theorem agX(hr:iO l)(ha:(id,a)∈l)(hk:∀k,k∈ks↔k∈eU tys a)(k:ba)(x:Int):SX (λk x=>x∈gb tys l k) id ks k x↔x∈gb tys (cQ id l) k:=by unfold SX;rw[XQ];constructor;rintro⟨q1,q2⟩;refine⟨q1,λw=>?_⟩;subst w;obtain⟨b,m1,m2⟩:=mo.1 q1;have e:=adx hr m1 ha rfl;cases e;exact q2 ⟨rfl,(hk k).2 m2⟩;rintro⟨q1,q2⟩;exact⟨q1,λw=>q2 w.1⟩
theorem afz(hk:∀k,k∈ks↔k∈eU tys a)(k:ba)(x:Int):WM (λk x=>x∈gb tys (cQ id l) k) id ks k x↔x∈gb tys (J4 id a l) k:=by unfold WM;simp only;rw[XQ,ags,hk]
end Go.Proofs.YtcmfcpjnhephaaaGreatDoor.Av
