/- Joined texts of the walk, made small by a program. -/
import Derived.Test.YtajkbcmleihaoaaGreatDoorVk4
import Derived.Test.YtajkbcmleihaoaaGreatDoorRows
import Derived.KernelRfl
import Derived.Test.YtajkbcmleihaoaaGreatDoorVk5
import Derived.Test.YtajkbcmleihaoaaGreatDoorVk8
import Derived.Lib.ValidLaws
import Derived.Test.YtajkbcmleihaoaaGreatDoorVk1
import Derived.Sort.Statements
import Derived.Maps.RangeRun
import Derived.Test.YtajkbcmleihaoaaGreatDoorVk7
set_option linter.unusedSimpArgs false
set_option linter.unusedVariables false
set_option maxRecDepth 100000
namespace Go.Proofs.YtajkbcmleihaoaaGreatDoor.Av
open Go
variable {b s t:List UInt8}{c:UInt8}{suf d dn tn:List Rdn}{id:Int}
def Ol:LSO:=[o1 2 (.mv (.av (.int .u32 0)))]
def Ok:LSO:=[Aa 3 0,o1 4 (.call 127 [(.av (.int .u32 0)),(tm 3)]),Aa 2 4]
def Nj:aI:=⟨5,(ahW Ol [] (ahW Ok Ce .ret)),[(.tmp 2)]⟩
attribute [push_cast] Ol Ok
theorem SV:ah1 92=ah2 Nj:=ah5
def Oy:LSO:=[o1 4 (.mv (.av (.int .u32 0)))]
def Ox:LSO:=[Aa 11 0,o1 12 (.un .xor (tm 11)),Aa 5 12]
def Ow:LSO:=[Aa 13 1,Af 14 13,Ab 15 0]
def Ov:LSO:=[Ao 16 15 14]
def Ou:LSO:=[Ak 17 1 13 15,Ac 18 1 17,Aa 7 18]
def Ot:LSO:=[Aa 19 7,o1 20 (.s2b (tm 19)),Af 21 20,Ab 22 0]
def Oq:LSO:=[Ao 23 22 21]
def Oo:LSO:=[Ak 24 1 20 22,Ac 25 1 24,Aa 9 25]
def On:LSO:=[Aa 26 5,Aa 27 9,o1 28 (.conv .u32 (tm 27)),o1 29 (.bin .xor (tm 26) (tm 28)),Aa 5 29]
def Om:LSO:=[Ab 30 0]
def LP:LSO:=[AI 31 30 8]
def LO:LSO:=[Aa 32 5,o1 33 (.bin .and (tm 32) (.av (.int .u32 1))),Aa 10 33]
def LN:LSO:=[Aa 34 5,o1 35 (.bin .shr (tm 34) (.av (.int .u64 1))),Aa 36 10,o1 37 (.un .neg (tm 36)),o1 38 (.bin .and (.av (.int .u32 3988292384)) (tm 37)),
 o1 39 (.bin .xor (tm 35) (tm 38)),Aa 5 39]
def LM:LSO:=[Aj 40 30 1,Aa 30 40]
def LL:LSO:=[Aj 41 22 1,Aa 22 41]
def LK:LSO:=[Aj 42 15 1,Aa 15 42]
def LJ:LSO:=[Aa 43 5,o1 44 (.un .xor (tm 43)),Aa 4 44]
def Nk:aI:=⟨45,(ahW Oy [] (ahW Ox Ce (.seq (ahW Ow [] (ahZ 0 (ahW Ov [] (.seq (ah0 16 0) (.seq (.block 1 (ahW Ou Ce (ahW Ot Cp (ahZ 2 (ahW Oq [] (.seq (ah0 23 2) (.seq (.block 3 (ahW Oo Ce (ahW On Cg (ahW Om [] (ahZ 4 (ahW LP [] (.seq (ah0 31 4) (.seq (.block 5 (ahW LO Ce (.sreg LN Ch))) (.sreg LM Cd))))))))) (.sreg LL Cd)))))))) (.sreg LK Cd)))))) (ahW LJ Ce .ret)))),[(.tmp 4)]⟩
attribute [push_cast] Oy Ox Ow Ov Ou Ot Oq Oo On Om LP LO LN LM LL LK LJ
theorem SW:ah1 127=ah2 Nk:=ah5
def LI:LSO:=[AK 2]
def LH:LSO:=[Aa 5 0,o1 6 (.minmax false [(tm 5),(iv 8192)]),BM 7 0 6,Aa 3 7]
def LG:LSO:=[Aa 8 3,o1 9 (.mkslice 1 16 [(.str [])] (tm 8) (tm 8)),
 .op ⟨(some 10),.mkmap,none⟩,Aa 11 3,
 o1 12 (.build [(.sl [] 0 (some 0)),.nilmap,(.int .i64 0),(.bool false),(.int .i64 0),(.int .u64 0),(.int .i64 0),(.int .i64 0)] [(0,(1,(tm 9))),(1,(1,(tm 10))),(2,(1,(tm 11)))]),
 A3 13 12,Aa 4 13]
def LF:LSO:=[Aa 14 4,o1 15 (.call 20 [(tm 14),(.av (.str []))])]
def LE:LSO:=[Aa 16 4,Aa 2 16]
def JX:aI:=⟨17,(ahW LI [] (ahW LH Cf (ahW LG Ch (ahW LF C0 (ahW LE Cd .ret))))),[(.tmp 2)]⟩
attribute [push_cast] LI LH LG LF LE
theorem Rj:ah1 6=ah2 JX:=ah5
def vS:LSO:=[Aa 6 0,AA 7 6]
def vR:LSO:=[Aa 8 0,Ae 9 8,Ad 10 0 9,Ac 11 1 10,Af 12 11,Ab 13 0]
def vQ:LSO:=[Ao 14 13 12]
def vP:LSO:=[Aa 15 13,Aa 4 15]
def vO:LSO:=[o1 16 (.mkslice 1 1 [(.int .u8 0)] (iv 128) (iv 128)),Aa 5 16]
def vN:LSO:=[Aa 17 1,Aa 18 5,Aa 19 1,o1 20 (.copy 1 (tm 18) (tm 19)),BF 21 17 20,Aa 1 21]
def vM:List (aj×Kd):=
 [Ar 22 0,A1 23 22 0 0,As 24 0 23,Au 25 1 24 0 0,Ar 26 4,Ar 27 5,od 28 (.b2s (tm 27)) (.read 0 0)]
def sG:List aj :=
 [⟨(some 29),(.iaddr 1 (tm 25) (tm 26)),none⟩,⟨none,(.store 1 (tm 29) (tm 28)),none⟩]
def vL:LSO:=[Aj 30 13 1,Aa 13 30]
def vK:LSO:=[Aa 31 0,Ae 32 31,Ad 33 1 32,Ac 34 1 33,o0 (.mclr (tm 34))]
def oz:aI:=⟨35,(.seq (ahW vS Cd (ahX 7 .ret .skip)) (.seq (ahW vR Cw (ahZ 0 (ahW vQ [] (.seq (ah0 14 0) (.seq (.block 1 (ahW vP Cd (ahW vO Cd (ahW vN Ci (.dregM vM sG C1))))) (.sreg vL Cd)))))) (.sreg vK Cq))),[]⟩
attribute [push_cast] vS vR vQ vP vO vN vM sG vL vK
theorem JZ:ah1 20=ah2 oz:=ah5
def mr:LSO:=[Ab 2 0]
def mq:LSO:=[Aa 3 0,AA 4 3]
def mp:LSO:=[Ab 2 0]
def mo:LSO:=[Aa 5 0,Ae 6 5,Ad 7 0 6,Ac 8 1 7,Af 9 8,Aa 2 9]
def jt:aI:=⟨10,(ahW mr [] (.seq (ahW mq Cd (ahY 4 (.sreg mp []))) (ahW mo Ci .ret))),[(.tmp 2)]⟩
attribute [push_cast] mr mq mp mo
theorem zw:ah1 51=ah2 jt:=ah5
def su:LSO:=[Ab 2 0]
def sq:LSO:=[Aa 3 0,AA 4 3]
def sn:LSO:=[Ab 2 0]
def sj:LSO:=[Aa 5 0,Ae 6 5,Ad 7 2 6,Ac 8 1 7,Aa 9 0,Ae 10 9,Ad 11 0 10,Ac 12 1 11,Af 13 12,o1 14 (.minmax false [(tm 8),(tm 13)]),Aa 2 14]
def mI:aI:=⟨15,(ahW su [] (.seq (ahW sq Cd (ahY 4 (.sreg sn []))) (.seq (.sdreg sj [.pure,(.read 0 0),.pure,(.read 0 0),.pure,(.read 0 0),.pure,(.read 0 0),(.read 0 0)] Cv) .ret))),[(.tmp 2)]⟩
attribute [push_cast] su sq sn sj
theorem Hl:ah1 65=ah2 mI:=ah5
def qc:LSO:=[Ab 4 0]
def p9:LSO:=[Aa 6 0,AA 7 6,Aa 5 7]
def pZ:LSO:=[Ab 4 1]
def pY:LSO:=[Aa 9 0,Ae 10 9,Ad 11 3 10,Ac 12 1 11,Aa 8 12]
def pX:LSO:=[Ab 4 10]
def pW:LSO:=[Aa 14 1,AI 15 14 0,Aa 16 15,.grp none 16 false
 [Ah 17 16 1,Ah 18 16 0,Bv 19 16 18,A7 20 16 0 19,A4 21 16 1 20,AH 22 16 21,og 23 16 false (.bin .geq (tm 17) (tm 22))]
 24 (tm 23),Aa 13 24]
def pV:LSO:=[Ab 4 2]
def pU:LSO:=[Ab 4 0]
def bW:aI:=⟨25,(ahW qc [] (.seq (.block 0 (ahW p9 Ce (ahX 5 (ahW pZ [] .ret) (ahW pY Cg (ahX 8 (ahW pX [] .ret) (ahW pW Cg (ahY 13 (.sreg pV [])))))))) (ahW pU [] .ret))),[(.tmp 4)]⟩
attribute [push_cast] qc p9 pZ pY pX pW pV pU
theorem iJ:ah1 81=ah2 bW:=ah5
def sF:LSO:=[Aw 4,Ab 5 0]
def sE:LSO:=[Aa 9 0,Aa 10 1,Ax 11 81 9 10,Aa 6 11]
def sD:LSO:=[Aa 12 6,Ay 13 12 0]
def sC:LSO:=[Aa 14 6,Aw 4,Aa 5 14]
def sB:LSO:=[Aa 16 0,Ae 17 16,Ad 18 1 17,Ac 19 1 18,Aa 20 1,o1 21 (.mget .int true (.str []) (tm 19) (tm 20)),Aa 15 21,Am 22 15,Ap 23 15,Aa 7 22,Aa 8 23]
def sA:LSO:=[Aa 24 8]
def sy:LSO:=[Aa 25 7,Aa 4 25,Ab 5 0]
def sw:LSO:=[Aa 26 0,Ae 27 26,Ad 28 0 27,Ac 29 1 28,Aa 30 1,Ak 31 1 29 30,Ac 32 1 31,Aa 4 32,Ab 5 0]
def fz:aI:=⟨33,(ahW sF [] (.seq (ahW sE Cf (ahW sD Cd (ahY 13 (.sreg sC Cj)))) (.seq (ahW sB C5 (ahW sA [] (ahY 24 (.sreg sy Cj)))) (ahW sw Cx .ret)))),[(.tmp 4),(.tmp 5)]⟩
attribute [push_cast] sF sE sD sC sB sA sy sw
theorem qK:ah1 52=ah2 fz:=ah5
def vJ:LSO:=[Al 2]
def vI:LSO:=[Aa 3 0,Ae 4 3,Ad 5 4 4,Ac 6 1 5,A0 7 6 0]
def vH:LSO:=[Al 2]
def vG:LSO:=[Aa 8 0,Ae 9 8,Ad 10 4 9,Ac 11 1 10,AP 12 11 1,Ae 13 8,Ad 14 4 13,Ai 1 14 12]
def vF:LSO:=[Aa 15 0,Ae 16 15,Ad 17 4 16,Ac 18 1 17,A0 19 18 0,Aa 2 19]
def oy:aI:=⟨20,(ahW vJ [] (.seq (ahW vI Cg (ahY 7 (.sreg vH []))) (ahW vG Cz (ahW vF Ci .ret)))),[(.tmp 2)]⟩
attribute [push_cast] vJ vI vH vG vF
theorem JY:ah1 119=ah2 oy:=ah5
def qn:LSO:=[Ab 6 0]
def qm:LSO:=[Aa 8 0,Aa 9 1,Ax 10 81 8 9,Aa 7 10]
def ql:LSO:=[Aa 11 7,Ay 12 11 0]
def qj:LSO:=[Aa 13 7,Aa 6 13]
def qi:LSO:=[Aa 14 2,A8 15 14,Ay 16 15 128]
def qh:LSO:=[Ab 6 2]
def qg:LSO:=[Aa 17 1,Aa 18 0,Ag 19 65 18,o1 20 (.bin .geq (tm 17) (tm 19))]
def qf:LSO:=[Ab 6 11]
def qe:LSO:=[Aa 21 0,Ae 22 21,Ad 23 1 22,Ac 24 1 23,Aa 25 1,Aa 26 2,o0 (.mset .int (tm 24) (tm 25) (tm 26))]
def qd:LSO:=[Aa 27 0,Ag 28 119 27]
def nM:LSO:=[Aa 29 0,Ag 30 120 29,Aa 6 30]
def nL:LSO:=[Ab 6 0]
def eF:aI:=⟨31,(ahW qn [] (.seq (ahW qm Cf (ahW ql Cd (ahY 12 (.sreg qj Cd)))) (.seq (ahW qi Ce (ahY 16 (.sreg qh []))) (.seq (ahW qg Cf (ahY 20 (.sreg qf []))) (ahW qe C4 (.seq (ahW qd Cd (ahY 28 (.sreg nM Ce))) (ahW nL [] .ret))))))),[(.tmp 6)]⟩
attribute [push_cast] qn qm ql qj qi qh qg qf qe qd nM nL
theorem n9:ah1 89=ah2 eF:=ah5
def qA:LSO:=[Ab 2 0]
def qz:LSO:=[Aa 6 0,AJ 7 81 6 0,Aa 3 7]
def qw:LSO:=[Aa 8 3,Ay 9 8 0,Aa 10 9,.grp none 10 true
 [An 11 10 3,Bt 12 10 11 2]
 13 (tm 12)]
def qv:LSO:=[Aa 14 3,Aa 2 14]
def qu:LSO:=[Aa 15 0,Ag 16 119 15]
def qt:LSO:=[Aa 17 0,Ag 18 120 17,Aa 2 18]
def qr:LSO:=[Aa 19 0,Ae 20 19,Ad 21 1 20,Ac 22 1 21,o1 23 (.mrange (tm 22))]
def qq:LSO:=[o1 24 (.mnext (tm 23)),Am 25 24]
def qp:LSO:=[o1 26 (.mentry (tm 23)),Am 27 26,Ap 28 26,Aa 4 27,Aa 5 28]
def qo:LSO:=[Aa 29 0,Ae 30 29,Ad 31 0 30,Ac 32 1 31,Aa 33 4,Aa 34 5,Ak 35 1 32 33,Ai 1 35 34]
def nO:LSO:=[Aa 36 0,Ae 37 36,Ad 38 1 37,Ac 39 1 38,Aa 40 4,o0 (.mdel .int (tm 39) (tm 40))]
def nN:LSO:=[Ab 2 0]
def lD:aI:=⟨41,(ahW qA [] (.seq (ahW qz Ce (ahW qw Cf (ahY 13 (.sreg qv Cd)))) (.seq (ahW qu Cd (ahY 16 (.sreg qt Ce))) (.seq (ahW qr Cg (ahZ 0 (ahW qq Cd (.seq (ah0 25 0) (.block 1 (ahW qp Co (ahW qo Cz (.sreg nO C3)))))))) (ahW nN [] .ret))))),[(.tmp 2)]⟩
attribute [push_cast] qA qz qw qv qu qt qr qq qp qo nO nN
theorem GN:ah1 90=ah2 lD:=ah5
def sh:LSO:=[A3 3 1]
def sg:LSO:=[Ab 4 0]
def sf:LSO:=[Aa 9 0,Ae 10 9,Ad 11 0 10,Ac 12 1 11,Af 13 12,Ab 14 0]
def se:LSO:=[Ao 15 14 13]
def sb:LSO:=[Aa 16 14,Aa 5 16]
def sa:LSO:=[Aa 18 0,Ae 19 18,Ad 20 1 19,Ac 21 1 20,Aa 22 5,o1 23 (.mget .int true (.str []) (tm 21) (tm 22)),Aa 17 23,Am 24 17,Ap 25 17,Aa 6 24,Aa 7 25]
def rZ:LSO:=[Aa 26 7,A6 27 26]
def rY:LSO:=[Aa 29 4,Ad 30 1 3,Ac 31 1 30,Be 32 29 31,Aa 28 32]
def rX:LSO:=[Ad 33 2 3,Ac 34 1 33,BM 35 0 34,o1 36 (.bin .rem (tm 35) (iv 129)),Aa 8 36]
def rW:List (aj×Kd):=
 [Ar 37 0,A1 38 37 0 0,As 39 0 38,Au 40 1 39 0 0,Ar 41 5,Ar 42 6,Ar 43 8,od 44 (.slS (tm 42) none (some (tm 43))) (.read 0 0),Ar 45 0,A1 46 45 0 0,As 47 0 46,Au 48 1 47 0 0,
 Ar 49 5,od 50 (.iaddr 1 (tm 48) (tm 49)) (.read 0 0),Au 51 1 50 0 0,Ar 52 8,BZ 53 51 52 0 0,Bh 54 44 53]
def pO:List aj :=
 [⟨(some 55),(.iaddr 1 (tm 40) (tm 41)),none⟩,⟨none,(.store 1 (tm 55) (tm 54)),none⟩]
def pT:LSO:=[Ad 57 0 3,Ac 58 1 57,Aa 59 4,o1 60 (.bin .rem (tm 59) (iv 64)),o1 61 (.bin .shr (tm 58) (tm 60)),o1 62 (.bin .and (tm 61) (.av (.int .u64 1))),
 o1 63 (.bin .eql (tm 62) (.av (.int .u64 1))),Aa 56 63]
def pS:LSO:=[Aa 64 0,Ae 65 64,Ad 66 0 65,Ac 67 1 66,Aa 68 5,Aa 69 6,Ak 70 1 67 68,Ai 1 70 69]
def pR:LSO:=[Aa 71 4,Aj 72 71 1,Aa 4 72]
def pQ:LSO:=[Aj 73 14 1,Aa 14 73]
def pP:LSO:=[Aa 74 0,Ae 75 74,Ad 76 1 75,Ac 77 1 76,o0 (.mclr (tm 77))]
def mH:aI:=⟨78,(ahW sh [] (ahW sg [] (.seq (ahW sf Cw (ahZ 0 (ahW se [] (.seq (ah0 15 0) (.seq (.block 1 (ahW sb Cd (ahW sa C5 (.seq (ahW rZ Cd (ahX 27 (.exit 1) .skip)) (.seq (.block 2 (ahW rY Cg (ahX 28 (ahW rX Cg (.dregM rW pO CL)) (ahW pT Ck (ahX 56 (.sreg pS Cz) .skip))))) (.sreg pR Ce)))))) (.sreg pQ Cd)))))) (.sreg pP Cq)))),[]⟩
attribute [push_cast] sh sg sf se sb sa rZ rY rX rW pO pT pS pR pQ pP
theorem Hk:ah1 59=ah2 mH:=ah5
def qF:LSO:=[A3 3 1]
def qE:LSO:=[Aa 4 0,AA 5 4]
def qD:LSO:=[Aa 6 0,Ae 7 6,Ad 8 3 7,Ac 9 1 8,A6 10 9]
def qC:LSO:=[Aa 11 0,Az 12 3 3,Ax 13 59 11 12]
def qB:LSO:=[Aa 14 0,Ag 15 60 14]
def lE:aI:=⟨16,(ahW qF [] (.seq (ahW qE Cd (ahX 5 .ret .skip)) (.seq (ahW qD Cg (ahX 10 (.sreg qC Cu) .skip)) (.sreg qB C0)))),[]⟩
attribute [push_cast] qF qE qD qC qB
theorem GP:ah1 24=ah2 lE:=ah5
def yB:LSO:=[Aa 2 0,o1 3 (.eqk true .ptr (tm 2) (.av .nilptr))]
def yA:LSO:=[Aa 4 0,Aa 5 0,Ae 6 4,Ad 7 3 6,o0 (.store 1 (tm 7) (.av (.bool false))),Ae 8 5,Ad 9 4 8,o0 (.store 1 (tm 9) (iv 0))]
def sY:aI:=⟨10,(ahW yB Cd (ahX 3 (.sreg yA C4) .skip)),[]⟩
attribute [push_cast] yB yA
theorem Mo:ah1 60=ah2 sY:=ah5
attribute [push_cast] Nj Nk JX oz jt mI bW fz oy eF lD mH lE sY
set_option maxHeartbeats 8000000
set_option maxRecDepth 100000
abbrev WtE:=Int×List UInt8×Nat
def wtA(e:WtE):AV×AV×Nat:=(.int .i64 e.1,.str e.2.1,e.2.2)
abbrev gl(lp wp:Nat)(n:Nat)(cp:Option Nat)(lim:Int)(off:Bool)(left:Int)(x y z:AV):List AV:=[.lsl lp 0 n cp 1,.lmap wp,.int .i64 lim,.bool off,.int .i64 left,x,y,z]
section
variable {L:List Blk}{dp lp wp n:Nat}{cp:Option Nat}{lim left:Int}{off:Bool}{x y z:AV}
theorem WS(hd:L[dp]?=some (.cells (gl lp wp n cp lim off left x y z))){K:aeX}(h:K (.int .i64 n) L):aeW 51 [.ptr dp 0] L K:=by replace h:=hid h;refine aeV zw ?_;exact ag h.o
theorem SI(hd:L[dp]?=some (.cells (gl lp wp n cp lim off left x y z))){K:aeX}(h:K (.int .i64 (if(n:Int)<lim then(n:Int)else lim)) L):aeW 65 [.ptr dp 0] L K:=by replace h:=hid h;refine aeV Hl ?_;exact ag h.o
theorem Qu(hd:L[dp]?=some (.cells (gl lp wp n cp lim off left x y z))){i:Int}{K:aeX}(h:K (.int .i64 (if off=true then 10 else if i<0\/(n:Int)<=i then 2 else 0)) L):aeW 81 [.ptr dp 0,.int .i64 i] L K:=by
 cases off with
 | true =>
   replace h:=hid h;refine aeV iJ ?_;exact ag h.o
 | false =>
   by_cases a:i<0\/(n:Int)<=i
   .have h2:=hid (show K (.int .i64 2) L by rw[if_neg (by decide),if_pos a]at h;exact h);have g:decide (i<0\/(n:Int)<=i)=true:=decide_eq_true a;clear h a;refine aeV iJ ?_;exact ag h2.o
   .have h2:=hid (show K (.int .i64 0) L by rw[if_neg (by decide),if_neg a]at h;exact h);have g:decide (i<0\/(n:Int)<=i)=false:=decide_eq_false a;clear h a;refine aeV iJ ?_;exact ag h2.o
end
set_option maxHeartbeats 8000000
set_option maxRecDepth 100000
theorem O5:∀(ws:List WtE) (i:Int) (j:Nat),bH (.int .i64 i) (ws.map wtA) j=some ((ws.findIdx? λe=>decide (e.1=i)).map λn=>(j+n,.str (ws.getD n default).2.1))
 |[],i,j=>rfl
 | e::ws,i,j=>by
   by_cases h:i=e.1
   .simp[bH,wtA,yF,agt,h]
   .have h':¬e.1=i:=λq=>h q.symm
    simp only[afe,wtA,bH,yF,if_true,decide_eq_false h,agt,decide_eq_false h',afm,if_false];rw[show bH (AV.int IntKind.i64 i) (ws.map wtA) (j+1)=_ from O5 ws i (j+1),Option.map_map];cases ws.findIdx? λe=>decide (e.1=i)with
    |none=>rfl
    |some n=>simp;omega
def s8(ls:List (List UInt8))(ws:List WtE)(i:Nat):List UInt8:=match ws.find? (λe=>decide (e.1=(i:Int)))with|some e=>e.2.1|none=>ls.getD i []
theorem R9(ws:List WtE)(i:Int):((ws.findIdx? λe=>decide (e.1=i))=none/\ws.find? (λe=>decide (e.1=i))=none)\/∃n,(ws.findIdx? λe=>decide (e.1=i))=some n/\ws.find? (λe=>decide (e.1=i))=some (ws.getD n default):=by
 cases h:ws.findIdx? λe=>decide (e.1=i)with
 |none=>exact .inl ⟨rfl,by rw[ahU]at h;exact af7.2 λx b=>by simpa using h x b⟩
 | some n =>
   refine .inr ⟨n,rfl,?_⟩;rw[aho]at h;obtain⟨a,d,c⟩:=h;rw[List.find?_eq_some_iff_getElem];exact⟨by simpa[a]using d,n,a,by simp[a],λj f=>by simpa using c j f⟩
def J5(ws:List WtE)(ck:Nat)(i:Int)(s:List UInt8):List WtE×Nat:=match ws.findIdx? λe=>decide (e.1=i)with
 |none=>(ws++[(i,s,ck)],ck+1)
 |some n=>(ws.set n (i,s,(ws.getD n default).2.2),ck)
theorem WG:∀(ws:List WtE) (n:Nat) (i:Int) (s:List UInt8),n<ws.length->Vk (.int .i64 i) (.str s) (ws.map wtA) n=(ws.set n (i,s,(ws.getD n default).2.2)).map wtA
 |e::ws,0,i,s,h=>rfl
 |e::ws,n+1,i,s,h=>by rw[afe,List.set_cons_succ,afe];rw[Vk,WG ws n i s (by simpa using h)];rfl
section
variable {L:List Blk}{dp lp wp ck:Nat}{cp:Option Nat}{lim left:Int}{x y z:AV}{ls:List (List UInt8)}{ws:List WtE}
theorem ab6(hd:L[dp]?=some (.cells (gl lp wp ls.length cp lim false left x y z)))(k:L[lp]?=some (.cells (ls.map AV.str)))(f:L[wp]?=some (.map (ws.map wtA) ck)){i:Nat}(d:i<ls.length){K:aeX}(h:K (.tup [.str (s8 ls ws i),.int .i64 0]) L):aeW 52 [.ptr dp 0,.int .i64 i] L K:=by
 have kk1:Hid (∀{K:aeX},K (.int .i64 0) L->aeW 81 [.ptr dp 0,.int .i64 i] L K):=@hid _ (λ{K} q=>Qu hd (by rw[if_neg (by decide),if_neg ah3];exact q));have c:=O5 ws (i:Int) 0;have e:aU .int (.int .i64 (i:Int))=true:=rfl;unfold s8 at h;have g:(ls.map AV.str).getD i .undef=.str (ls.getD i []):=by simp[d]
 have j:i<(ls.map AV.str).length:=by simpa using d
 rcases R9 ws i with⟨a,b⟩|⟨n,a,b⟩;rw[b]at h;rw[a]at c;simp only[afx]at c;replace h:=hid h;clear a b;refine aeV qK ?_;exact ag h.o;rw[b]at h;rw[a]at c;simp only[afi]at c;replace h:=hid h;clear a b;refine aeV qK ?_;exact ag h.o
theorem aae(hd:L[dp]?=some (.cells (gl lp wp ls.length cp lim false 0 x y z))){K:aeX}(h:K (.bool false) L):aeW 119 [.ptr dp 0] L K:=by replace h:=hid h;refine aeV JY ?_;exact ag h.o
theorem Z9(hd:L[dp]?=some (.cells (gl lp wp ls.length cp lim false 0 x y z)))(r:L[lp]?=some (.cells (ls.map AV.str)))(p:L[wp]?=some (.map (ws.map wtA) ck))(f:wp≠dp){i:Nat}{s:List UInt8}(l:s.length=128)(k:i<ls.length)(hr:(i:Int)<lim){K:aeX}(h:K (.int .i64 0) (L.set wp (.map ((J5 ws ck i s).1.map wtA) (J5 ws ck i s).2))):aeW 89 [.ptr dp 0,.int .i64 i,.str s] L K:=by
 have kk1:Hid (∀{K:aeX},K (.int .i64 0) L->aeW 81 [.ptr dp 0,.int .i64 i] L K):=@hid _ (λ{K} q=>Qu hd (by rw[if_neg (by decide),if_neg ah3];exact q));obtain⟨rm,c⟩:=aeS ((if(ls.length:Int)<lim then(ls.length:Int)else lim));have kk2:Hid (∀{K:aeX},K (.int .i64 rm) L->aeW 65 [.ptr dp 0] L K):=@hid _ (λ{K} q=>SI hd (by rw[c];exact q));have e:=O5 ws (i:Int) 0;have j:aU .int (.int .i64 (i:Int))=true:=rfl;have g1:(s.length:Int)=128:=ah3;have m:decide (rm<=(i:Int))=false:=decide_eq_false (by rw[<- c];split<;>omega);have kk3:Hid (∀{b:Blk}{K:aeX},K (.bool false) (L.set wp b)->aeW 119 [.ptr dp 0] (L.set wp b) K):=@hid _ (λ{b K} q=>aae (L:=L.set wp b) (by rw[ae4 f];exact hd) q);rcases R9 ws i with⟨a,b⟩|⟨n,a,b⟩;unfold J5 at h;rw[a]at e h;simp only[afx]at e;have g:=hid h;simp only[afk,afe,afQ,wtA]at g;clear a b c h;refine aeV n9 ?_;exact ag g.o;have d:n<ws.length:=by rw[aho]at a;exact a.1
 unfold J5 at h;rw[a]at e h;simp only[afi,agm]at e;rw[<- WG ws n i s d]at h;replace h:=hid h;clear a b c d;refine aeV n9 ?_;exact ag h.o
end
def Cn(x:Nat):Prop:=128<=x/\x<192
instance (x:Nat):Decidable (Cn x):=by unfold Cn;infer_instance
def Yj(n b0 b1:Nat):Prop:=n<2\/¬Cn b1\/(b0-192)*64+b1-128<128
def aex(n b0 b1 b2:Nat):Prop:=n<3\/¬Cn b1\/¬Cn b2\/((b0-224)*64+b1-128)*64+b2-128<2048\/55296<=((b0-224)*64+b1-128)*64+b2-128/\((b0-224)*64+b1-128)*64+b2-128<57344
def aew(n b0 b1 b2 b3:Nat):Prop:=n<4\/¬Cn b1\/¬Cn b2\/¬Cn b3\/(((b0-240)*64+b1-128)*64+b2-128)*64+b3-128<65536\/1114111<(((b0-240)*64+b1-128)*64+b2-128)*64+b3-128
instance (n b0 b1:Nat):Decidable (Yj n b0 b1):=by unfold Yj;infer_instance
instance (n b0 b1 b2:Nat):Decidable (aex n b0 b1 b2):=by unfold aex;infer_instance
instance (n b0 b1 b2 b3:Nat):Decidable (aew n b0 b1 b2 b3):=by unfold aew;infer_instance
set_option maxHeartbeats 8000000
set_option maxRecDepth 100000
theorem jR(c:UInt8):(qM c).toNat=if 65<=c.toNat/\c.toNat<=90 then c.toNat+32 else c.toNat:=by
 by_cases h:65<=c.toNat/\c.toNat<=90;have:=WK h.1 h.2
 grind
 rw[LW h,if_neg h]
theorem RP(c:UInt8):qM (qM c)=qM c:=by
 refine LW ?_;rw[jR]
 grind
theorem Qk(s:List UInt8):aE (aE s)=aE s:=by unfold aE;rw[afj];exact afN λc _=>RP c
theorem PM(s:List UInt8)(c:UInt8):bO (s++[c])=aJ (bO s) c:=by simp[bO]
theorem PN(s:List UInt8):(bO s).length<=s.length:=by have:=yC s s.length;simp_all
theorem Si(c:UInt8)(h:bO b=b):bO (aJ b c)=aJ b c:=by by_cases a:c=32/\Qp b=true;simp only[aJ,if_pos a];exact h;simp only[aJ,if_neg a];rw[PM,h,aJ,if_neg a]
theorem Um:∀(s b:List UInt8),bO b=b->bO (s.foldl aJ b)=s.foldl aJ b
 |[],_,h=>h
 |c::s,b,h=>Um s (aJ b c) (Si c h)
theorem MG(s:List UInt8):bO (bO s)=bO s:=Um s [] rfl
theorem ab0(h:bO (b++[c])=b++[c]):bO b=b/\¬(c=32/\Qp b=true):=by
 rw[PM]at h;unfold aJ at h;split at h;have:=PN b
 grind
 simp_all
theorem MB(h:bO b=b):bO (eJ b)=eJ b/\eJ (eJ b)=eJ b:=by
 rcases agQ b with rfl|⟨d,c,rfl⟩;simp[eJ,bO];rw[ahl]at h⊢;obtain⟨g,f⟩:=ab0 h;rw[qR];split;rename_i a;refine⟨g,?_⟩;have i:Qp d=false:=by simpa[a]using f
 unfold eJ;rw[if_neg];intro e;simp[Qp,e]at i;rename_i a;exact⟨h,by rw[qR,if_neg a]⟩
theorem Ss{x:UInt8}(h:x∈aJ b c):x∈b\/x=c:=by
 unfold aJ at h
 grind
theorem TT:∀(s b:List UInt8){x:UInt8},x∈s.foldl aJ b->x∈b\/x∈s
 |[],_,_,h=>.inl h
 | c::s,b,x,h=>by
   rcases TT s (aJ b c) h with a|a
   .rcases Ss a with d|d
    .simp[*]
    simp[*]
   simp[*]
theorem XI{x:UInt8}(h:x∈eJ b):x∈b:=by unfold eJ at h;split at h;exact(List.dropLast_sublist b).subset h;omega
theorem XJ{x:UInt8}(h:x∈bE s):∃c∈s,x=qM c:=by
 rcases TT _ _ (XI h)with a|a;simp_all;obtain⟨c,b,rfl⟩:=ae1.1 a
 grind
theorem Un(s:List UInt8):aE (bE s)=bE s:=by unfold aE;rw[afN (g:=id) (λx a=>?_),List.map_id];obtain⟨c,_,rfl⟩:=XJ a;exact RP c
theorem Vc(s:List UInt8):bE (bE s)=bE s:=by
 have a:bE (bE s)=eJ (bO (bE s)):=by show eJ (bO (aE (bE s)))=_;rw[Un]
 rw[a];have b:=MB (MG (aE s));show eJ (bO (eJ (bO (aE s))))=eJ (bO (aE s));simp[*]
def Chr(q:List UInt8):Prop:=q≠[]/\(∀s,Lib.validD (q++s)=Lib.validD s)/\((∃c:UInt8,q=[c]/\c.toNat<128)\/∀c∈q,128<=c.toNat)
inductive Seg:List UInt8->Prop
 |nil:Seg []
 |cons{q s:List UInt8}:Chr q->Seg s->Seg (q++s)
theorem Seg.app{a:List UInt8}(h:Seg a)(c:Seg b):Seg (a++b):=by
 induction h with
 |nil=>exact c
 |cons hq _ ih=>rw[afa];exact .cons hq ih
theorem Seg.last(h:Seg s):∀d:List UInt8,s=d++[32]->Seg d:=by
 induction h with
 |nil=>intro d e;simp at e
 | @cons q s hq hs ih =>
   intro d e;rcases agQ s with rfl|⟨g,c,rfl⟩
   .rw[afq]at e;subst e;rcases hq.2.2 with⟨c,a,_⟩|f
    .have:d=[]:=by have:=congrArg List.length a;simp at this;omega
     simp[*]
    .have:=f 32 ah4;simp_all
   .rw[ahl]at *;rw[<- afa]at e;obtain⟨b,a⟩:=List.append_inj' e rfl;subst b;rw[a]at ih hs;exact .cons hq (ih g rfl)
def Dif(a b:Ava):Prop:=aE a.1≠aE b.1
theorem WP{r:Rdn}:Ed r t=false↔∀a∈r,aE a.1≠aE t:=by simp[Ed]
theorem QA:∀(t done:Rdn),done.length<=8->(eH done t=0↔done.length+t.length<=8/\(∀a∈t,wu a.1=true)/\(∀a∈done,∀b∈t,Dif a b)/\t.Pairwise Dif)
 |[],done,h=>by simp[eH,h]
 | a::t,done,h=>by
   unfold eH;by_cases j:done.length=8
   .grind
   rw[if_neg j];by_cases c:wu a.1=false
   .simp[*]
   rw[if_neg c];by_cases g:Ed done a.1=true
   .rw[if_pos g];constructor
    .omega
    .intro e;have:Ed done a.1=false:=WP.2 λb d=>e.2.2.1 b d a ah4
     simp_all
   rw[if_neg g,QA t (done++[a]) (by simp;omega)];simp only[Bool.not_eq_false]at c;have f:=WP.1 (by simpa using g);simp only[afc,afg,afF,ae2,afl,afp,af6,or_false,forall_eq_or_imp,List.pairwise_cons];constructor
   .rintro⟨e1,e2,e3,e4⟩;refine⟨ah3,⟨c,e2⟩,λx i=>⟨f x i,λb d=>e3 x (.inl i) b d⟩,λb d=>e3 a (.inr rfl) b d,e4⟩
   grind
theorem Xd(h:wu t=true):wu (aE t)=true:=by
 simp only[wu,ae7,afd,decide_eq_true_eq]at h⊢;obtain⟨⟨⟨i,f⟩,g⟩,h4⟩:=h;have a:∀c:UInt8,sM (c.toNat:Int)=true->sM ((qM c).toNat:Int)=true:=by intro c b;have:=jR c;split at this;rw[this];simp only[sM,afM,ae7,decide_eq_true_eq]at b⊢;omega;simp[*]
 refine⟨⟨⟨by simpa[aE]using i,by simpa[aE]using f⟩,?_⟩,?_⟩;rcases t with _|⟨c,t⟩;simp_all;simpa[aE]using a c (by simpa using g);intro c b;obtain⟨x,d,rfl⟩:=ae1.1 b;have:=h4 x d;simp only[ON,afM]at this⊢;rcases this with(e|e)|e;simp[*];refine .inl (.inr ?_);simp only[ae7,decide_eq_true_eq]at e⊢;rw[jR,if_neg ah3];exact e;refine .inr ?_;simp only[decide_eq_true_eq]at e⊢;rw[jR,if_neg ah3];exact e
theorem PQ(r:Rdn):(sI r).Perm (r.map Hf):=by have:=(Qj r [] List.Pairwise.nil).2;rwa[afH]at this
theorem XE(a:Ava):Hf (Hf a)=Hf a:=by simp[Hf,Qk,Vc]
theorem SN{r:Rdn}(h:eH [] r=0):eH [] (sI r)=0:=by
 rw[QA _ _ ah4]at h⊢;obtain⟨i,g,_,h4⟩:=h;have d:=PQ r;refine⟨by simpa[PR]using i,λa c=>?_,λa c=>(by cases c),?_⟩;obtain⟨b,f,rfl⟩:=ae1.1 (d.mem_iff.1 c);exact Xd (g b f);refine(d.pairwise_iff (λ{a b} e=>Ne.symm e)).2 ?_;rw[List.pairwise_map];refine h4.imp λ{a b} e=>?_
 simpa[Dif,Hf,Qk]using e
theorem QB:∀(d:List Rdn) (i:Nat),oo i d=0->oo i (yY d)=0
 |[],_,h=>h
 | r::d,i,h=>by
   unfold oo at h;show oo i (sI r::yY d)=0;unfold oo;split at h
   .omega
   rename_i a;split at h
   .omega
   rename_i hr;split at h
   .omega
   rename_i b;simp only[ne_eq,ag6]at b;rw[if_neg a,if_neg,if_neg (by simpa using SN b),QB d _ h];intro e;have:=congrArg List.length e;rw[PR]at this;simp_all
def wtB(c:UInt8):Nat:=if c=0 then 3 else if c∈([34,43,44,59,60,62,92]:List UInt8)then 2 else 1
def wtS(s:List UInt8):Nat:=(s.map wtB).sum
theorem Wa(a b:List UInt8):wtS (a++b)=wtS a+wtS b:=by simp[wtS]
theorem acW:∀c:UInt8,wtB (qM c)=wtB c:=by
 intro c;by_cases h:65<=c.toNat/\c.toNat<=90
 .have h2:=jR c;rw[if_pos h]at h2;have g:∀x:UInt8,65<=x.toNat->x.toNat≠92->wtB x=1:=by
   intro x a b;unfold wtB;rw[if_neg (by rintro rfl;exact absurd a (by decide)),if_neg];simp only[afp,af6,or_false];rintro(rfl|rfl|rfl|rfl|rfl|rfl|rfl)
   all_goals first|exact absurd a (by decide)|exact absurd rfl b
  grind
 rw[LW h]
theorem Tg(s:List UInt8):wtS (aE s)=wtS s:=by simp only[wtS,aE,afj];rw[show(wtB∘qM)=wtB from funext acW]
theorem ac1(i n:Nat)(c:UInt8):wtB c<=(wrB i n c).length:=by
 unfold wtB wrB
 grind
theorem UW(n:Nat):∀(s:List UInt8) (i:Nat),wtS s<=(wrL n i s).length
 |[],_=>by simp[wtS]
 |c::s,i=>by have a:=UW n s (i+1);have b:=ac1 i n c;simp only[wrL,afc,wtS,afe,ag8]at a⊢;omega
theorem ac3{i n:Nat}(b:i≠0)(a:c≠32):(wrB i n c).length=wtB c:=by
 unfold wtB wrB
 grind
theorem ac2{i n:Nat}(a:i≠0)(b:i+1≠n):(wrB i n 32).length=wtB 32:=by
 have e:wrB i n 32=[32]:=by unfold wrB;simp[*]
 rw[e];decide
theorem YF(n:Nat):∀(s:List UInt8) (i:Nat),i≠0->n=i+s.length->s.getLast?≠some 32->(wrL n i s).length=wtS s
 |[],_,_,_,_=>by simp[wrL,wtS]
 | c::s,i,hi,hn,hl=>by
   have f:s.getLast?≠some 32:=by grind
   have d:=YF n s (i+1) ah3 (by simp at hn;omega) f;have b:(wrB i n c).length=wtB c:=by
    by_cases a:c=32
    .subst a;refine ac2 hi λe=>?_
     simp_all
    .exact ac3 hi a
   rw[wrL,afc,d,b];rfl
theorem YD(s:List UInt8):wtS s<=(kN s).length:=UW _ _ _
theorem UU(s:List UInt8):wtS (35::s)+1<=(kN (35::s)).length:=by
 have a:=UW (s.length+1) s 1;have e:wrB 0 (s.length+1) 35=[92,35]:=by rfl
 show _<=(wrB 0 (s.length+1) 35++wrL (s.length+1) 1 s).length;rw[e];have:wtB 35=1:=by decide
 simp only[wtS,afe,ag8,afc,afg,afF]at a⊢;omega
theorem YC(f:c≠32)(d:(c::s).getLast?≠some 32):(kN (c::s)).length=wtS (c::s)+(if c=35 then 1 else 0):=by
 have a:s.getLast?≠some 32:=by grind
 have b:=YF (s.length+1) s 1 ah3 ah3 a;show(wrB 0 (s.length+1) c++wrL (s.length+1) 1 s).length=_;rw[afc,b];have h4:(wrB 0 (s.length+1) c).length=wtB c+(if c=35 then 1 else 0):=by
  unfold wtB wrB;by_cases e:c=0;simp[*]
  grind
 rw[h4];simp[wtS];omega
theorem aaW(b:List UInt8)(c:UInt8):wtS (aJ b c)<=wtS b+wtB c:=by unfold aJ;split;omega;rw[Wa];simp[wtS]
theorem Sa:∀(s b:List UInt8),wtS (s.foldl aJ b)<=wtS b+wtS s
 |[],b=>by simp[wtS]
 |c::s,b=>by have a:=Sa s (aJ b c);have d:=aaW b c;simp only[afO,wtS,afe,ag8]at a d⊢;omega
theorem V9(b:List UInt8):wtS (eJ b)<=wtS b:=by rcases agQ b with rfl|⟨d,c,rfl⟩;simp[eJ];rw[ahl,qR];split;rw[Wa];omega;omega
theorem MQ:∀(s:List UInt8) (x:UInt8) (b:List UInt8),∃t,s.foldl aJ (x::b)=x::t
 |[],x,b=>⟨b,rfl⟩
 | c::s,x,b=>by
   rw[afO,aJ];split
   .exact MQ s x b
   .exact MQ s x (b++[c])
theorem aaX(c:UInt8):1<=wtB c:=by
 unfold wtB
 grind
theorem Vr(s:List UInt8):(bE s).getLast?≠some 32:=by
 have h:=MB (MG (aE s));have e:eJ (bE s)=bE s:=h.2;intro a;rcases agQ (bE s)with q|⟨d,c,q⟩;simp_all;rw[q,ahl]at e a;rw[qR,if_pos (by simpa using a)]at e
 grind
theorem Vy(h:bE s=c::t):c≠32:=by
 have e:bO (bE s)=bE s:=(MB (MG (aE s))).1;rw[h]at e;rintro rfl;have:=PN t;have a:bO (32::t)=t.foldl aJ []:=rfl;rw[a]at e;have:=congrArg List.length e;have b:(t.foldl aJ []).length<=t.length:=PN t
 grind
theorem W9(s:List UInt8):(kN (bE s)).length<=(kN s).length:=by
 have m:=YD s;have l:wtS (bE s)<=wtS s:=by have k:=V9 (bO (aE s));have r:=Sa (aE s) [];have w:=Tg s;have h4:wtS (bO (aE s))=wtS ((aE s).foldl aJ []):=rfl;have p:wtS ([]:List UInt8)=0:=rfl;show wtS (eJ (bO (aE s)))<=_;omega
 rcases hp:bE s with _|⟨c,t⟩;simp[kN,wrL];have g:=Vr s;rw[hp]at g l;rw[YC (Vy hp) g];split;rename_i f;subst f;rcases s with _|⟨x,s⟩;have:bE []=[]:=rfl;simp_all;by_cases h:x=35;subst h;have:=UU s;omega;by_cases a:x=32;subst a;have e:bE (32::s)=bE s:=rfl;have k:=V9 (bO (aE s));have r:=Sa (aE s) [];have w:=Tg s;have h4:wtS (bO (aE s))=wtS ((aE s).foldl aJ []):=rfl;have p:wtS ([]:List UInt8)=0:=rfl;have z:wtS (bE s)=wtS (eJ (bO (aE s))):=rfl;rw[e]at hp;rw[hp]at z;have A:wtS (32::s)=wtB 32+wtS s:=by simp[wtS]
 have B:=aaX 32;omega;exfalso;have b:¬(qM x=32):=by
  intro q;have:=jR x;rw[q]at this;apply a;have:x.toNat=32:=by grind
  exact UInt8.toNat.inj this
 have i:¬(qM x=35):=by
  intro q;have:=jR x;rw[q]at this;apply h;have:x.toNat=35:=by grind
  exact UInt8.toNat.inj this
 have o:aE (x::s)=qM x::aE s:=rfl;obtain⟨u,n⟩:=MQ (aE s) (qM x) [];have v:bO (aE (x::s))=qM x::u:=by rw[o,<- n];show(aE s).foldl aJ (aJ [] (qM x))=_;rw[aJ,if_neg (λq=>b q.1)];rfl
 have j:eJ (qM x::u)=35::t:=by rw[<- v];exact hp
 rcases agQ u with rfl|⟨d,y,rfl⟩;have:eJ ([]++[qM x])=[]++[qM x]:=by rw[qR,if_neg b]
 simp_all;rw[ahl,<- afI,qR]at j
 grind
 omega
theorem nX(xs:List (List UInt8))(c:UInt8):(Lib.join xs [c]).length+1=(xs.map List.length).sum+xs.length+(if xs=[]then 1 else 0):=by
 rcases xs with _|⟨x,xs⟩;rfl;rw[P8,if_neg ah4];have:(xs.flatMap λy=>[c]++y).length=(xs.map List.length).sum+xs.length:=by
  induction xs with
  |nil=>rfl
  |cons y l ih=>simp only[afT,afc,ih,afe,ag8,afg,afF];omega
 grind
theorem U2{α:Type}{f g:α->Nat}:∀l:List α,(∀a∈l,f a<=g a)->(l.map f).sum<=(l.map g).sum
 |[],_=>ae0 _
 | a::l,h=>by
   have c:=U2 l λx b=>h x (by simp[b])
   grind
theorem Zm{l m:List Nat}(h:l.Perm m):l.sum=m.sum:=by grind
theorem Tt(r:Rdn):(cM true r).length<=(cM false r).length:=by
 have b:(ee (r.map (avT true))).Perm (r.map (avT true)):=aga _ _;have g:=nX (ee (r.map (avT true))) 43;have d:=nX (r.map (avT false)) 43;have e:((ee (r.map (avT true))).map List.length).sum=((r.map (avT true)).map List.length).sum:=Zm (b.map _);have h4:(ee (r.map (avT true))).length=r.length:=by rw[b.length_eq];simp
 have c:((r.map (avT true)).map List.length).sum<=((r.map (avT false)).map List.length).sum:=by
  rw[afj,afj];refine U2 r λa _=>?_
  have:=W9 a.2;simp only[agz,avT,if_true,afm,if_false,afc,afg,afF];simp only[aE,ae6];omega
 have f:(if ee (r.map (avT true))=[]then 1 else 0)=(if r.map (avT false)=[]then 1 else 0):=by grind
 simp only[cM,if_true,afm,if_false]
 grind
theorem Tn(d:List Rdn):(aP true d).length<=(aP false d).length:=by
 have a:=nX (d.map (cM true)) 44;have b:=nX (d.map (cM false)) 44;have e:((d.map (cM true)).map List.length).sum<=((d.map (cM false)).map List.length).sum:=by rw[afj,afj];exact U2 d λr _=>Tt r
 have c:(if d.map (cM true)=[]then 1 else 0)=(if d.map (cM false)=[]then 1 else 0):=by simp
 rw[c]at a;simp only[ae6]at a b;unfold aP;omega
theorem Xk{xs d:List (List UInt8)}(h:xs.Perm d):ee xs=ee d:=by
 have f:∀e:List (List UInt8),(ee e).Pairwise λx y=>x<=y:=λe=>by
  have:=ag5 (le:=λx y:List UInt8=>decide (x<=y)) (λa b c i g=>by
   simp only[decide_eq_true_eq]at *;exact List.le_trans i g) (λa b=>by
   simp only[afM,decide_eq_true_eq];exact List.le_total a b) e
  exact this.imp λh=>by simpa using h
 refine ahN (le:=λx y=>x<=y) (λa b _ _=>List.le_antisymm) (f xs) (f d) ?_;exact(aga _ _).trans (h.trans (aga _ _).symm)
theorem U7(r:Rdn):cM true (sI r)=cM true r:=by simp only[cM,if_true];congr 1;refine Xk ?_;refine((PQ r).map _).trans ?_;rw[afj];rw[show(avT true∘Hf)=avT true from funext λa=>by simp only[agz,acn,XE]]
abbrev Pth:=List (List UInt8)
variable {p:Pth}
abbrev INm:=Int×Pth
def aO(l:List INm)(p:Pth):Nat:=(l.filter λm=>decide (m.2≠[]/\m.2.tail=p)).length
structure sZ(suf:Pth)(l:List INm):Prop where
 sne:suf≠[]
 nd:(l.map (·.2)).Nodup
 ids:(l.map (·.1)).Nodup
 un:∀m∈l,suf <:+ m.2
 par:∀m∈l,m.2=suf\/∃k∈l,k.2=m.2.tail
theorem sZ.nil{suf:Pth}(h:suf≠[]):sZ suf []:=⟨h,ah4,ah4,λ_ h=>absurd h af6,λ_ h=>absurd h af6⟩
theorem bR{α β:Type}{f:α->β}:∀{l:List α},(l.map f).Nodup->∀{a b:α},a∈l->b∈l->f a=f b->a=b
 |[],_,a,_,h,_,_=>by cases h
 | x::l,h,a,b,ha,hb,e=>by
   rw[afe,afY]at h;rcases afp.1 ha with i|d<;>rcases afp.1 hb with g|c
   .simp[*]
   .grind
   .simp_all
   .exact bR h.2 d c e
theorem yZ{α β:Type}{f:α->β}:∀{l:List α},(l.map f).Nodup->l.Nodup
 |[],_=>agX
 |x::l,h=>by rw[afe,afY]at h;exact afY.2 ⟨λa=>h.1 (ae1.2 ⟨x,a,rfl⟩),yZ h.2⟩
theorem sZ.byP{suf:Pth}{l:List INm}(h:sZ suf l){a b:INm}(d:a∈l)(c:b∈l)(e:a.2=b.2):a=b:=bR h.nd d c e
theorem sZ.byI{suf:Pth}{l:List INm}(h:sZ suf l){a b:INm}(d:a∈l)(c:b∈l)(e:a.1=b.1):a=b:=bR h.ids d c e
theorem sZ.ne{suf:Pth}{l:List INm}(h:sZ suf l){m:INm}(a:m∈l):m.2≠[]:=λe=>h.sne (by have:=h.un m a;rw[e]at this;exact ahB.1 this)
theorem sZ.anc{suf:Pth}{l:List INm}(h:sZ suf l):∀(n:Nat) (k:INm) (y x:Pth),y.length=n->k∈l->k.2=y++x->suf <:+ x->∃m∈l,m.2=x
 |0,k,y,x,hy,hk,e,_=>⟨k,hk,by rw[e,List.eq_nil_of_length_eq_zero hy];rfl⟩
 | n+1,k,y,x,hy,hk,e,hs=>by
   obtain⟨a,b,rfl⟩:∃a b,y=a::b:=by
    cases y with
    |nil=>simp at hy
    |cons a b=>exact⟨a,b,rfl⟩
   rcases h.par k hk with c|⟨p,d,c⟩
   .have h1:=hs.length_le
    grind
   .rw[e]at c;exact h.anc n p b x (by simpa using hy) d c hs
theorem sZ.ancS{suf:Pth}{l:List INm}(h:sZ suf l){k:INm}{x:Pth}(b:k∈l)(a:x <:+ k.2)(c:suf <:+ x):∃m∈l,m.2=x:=by obtain⟨y,e⟩:=a;exact h.anc y.length k y x rfl b e.symm c
theorem sZ.added{suf:Pth}{l:List INm}(h:sZ suf l)(hid:∀m∈l,m.1≠id)(j:∀m∈l,m.2≠p)(f:p=suf\/∃k∈l,k.2=p.tail):
  sZ suf (l++[(id,p)])/\aO (l++[(id,p)]) p=0/\∀q,aO (l++[(id,p)]) q=aO l q+if p.tail=q then 1 else 0:=by
 have c:suf <:+ p:=by rcases f with rfl|⟨k,b,e⟩;simp;have:=h.un k b;rw[e]at this;exact this.trans (agJ p)
 have g:p≠[]:=λe=>h.sne (by rw[e]at c;exact ahB.1 c)
 have b:∀q,aO (l++[(id,p)]) q=aO l q+if p.tail=q then 1 else 0:=λq=>by
  unfold aO
  grind
 refine⟨⟨h.sne,?_,?_,?_,?_⟩,?_,b⟩;rw[afk,agq];refine⟨h.nd,ah4,?_⟩
 grind
 rw[afk,agq];refine⟨h.ids,ah4,?_⟩
 grind
 intro m a;rcases ae2.1 a with a|a;exact h.un m a;simp_all;intro m a;rcases ae2.1 a with a|a;rcases h.par m a with e|⟨k,b,e⟩;simp[*]
 grind
 rw[afl.1 a];rcases f with e|⟨k,b,e⟩;simp[*]
 grind
 rw[b p];have i:¬p.tail=p:=λe=>by
  have:=congrArg List.length e
  grind
 rw[if_neg i];have:aO l p=0:=by
  unfold aO;rw[afK,List.filter_eq_nil_iff];intro m a d;simp only[decide_eq_true_eq]at d;rcases h.par m a with e|⟨k,b,e⟩;have:=c.length_le;rw[<- d.2,e,agA]at this;have:=afP.2 h.sne;omega
  grind
 omega
theorem sZ.deleted{suf:Pth}{l:List INm}(h:sZ suf l)(b:(id,p)∈l)(g:aO l p=0):
  sZ suf (l.filter λm=>decide (m.1≠id))/\∀q,aO (l.filter λm=>decide (m.1≠id)) q+(if p.tail=q then 1 else 0)=aO l q:=by
 have sub:∀m∈l.filter (λm=>decide (m.1≠id)),m∈l/\m.1≠id:=λm b=>by simpa using afB.1 b
 refine⟨⟨h.sne,(List.filter_sublist.map _).nodup h.nd,(List.filter_sublist.map _).nodup h.ids,λm b=>h.un m (sub m b).1,λm f=>?_⟩,λq=>?_⟩;obtain⟨c,n⟩:=sub m f;rcases h.par m c with e|⟨k,i,e⟩;simp[*];refine .inr ⟨k,?_,e⟩;simp only[afB,decide_eq_true_eq];refine⟨i,λo=>?_⟩;have:k=(id,p):=h.byI i b o;subst this;unfold aO at g;rw[afK,List.filter_eq_nil_iff]at g;exact g m c (by simp only[decide_eq_true_eq];exact⟨h.ne c,e.symm⟩);have key:∀l:List INm,(l.map (·.1)).Nodup->(id,p)∈l->p≠[]->aO (l.filter λm=>decide (m.1≠id)) q+(if p.tail=q then 1 else 0)=aO l q:=by
  intro l;induction l with
  |nil=>intro _ h;cases h
  | cons a l ih =>
    intro j b d;rw[afe,afY]at j;rcases afp.1 b with rfl|b
    .have:l.filter (λm=>decide (m.1≠id))=l:=ahQ.2 λm b=>by grind
     unfold aO
     grind
    .have:=ih j.2 b d;unfold aO at this⊢
     grind
 exact key l h.ids b (h.ne b)
def ren(p q x:Pth):Pth:=if p <:+ x then x.take (x.length-p.length)++q else x
theorem gr(p q y:Pth):ren p q (y++p)=y++q:=by unfold ren;simp
theorem fG{q x:Pth}(h:¬p <:+ x):ren p q x=x:=by unfold ren;rw[if_neg h]
theorem Qz{α:Type}{f g:α->Bool}{a:α}:∀{l:List α},l.Nodup->a∈l->(∀k∈l,k≠a->f k=g k)->(l.filter f).length+(if g a=true then 1 else 0)=(l.filter g).length+(if f a=true then 1 else 0)
 |[],_,h,_=>by cases h
 | x::l,hn,hm,he=>by
   obtain⟨i,d⟩:=afY.1 hn;by_cases c:x=a
   .subst c;have:l.filter f=l.filter g:=ahC λk b=>he k (by simp[b]) λe=>i (e▸b)
    grind
   .have hm':a∈l:=by grind
    have j:=Qz d hm' λk b=>he k (by simp[b])
    grind
theorem sZ.moved{suf:Pth}{l:List INm}(h:sZ suf l){q:Pth}(G:(id,p)∈l)(R:p≠suf)(N:q≠[])(B:¬p <:+ q.tail)(F:∃k∈l,k.2=q.tail)(Q:∀m∈l,m.2=q->m.1=id):
  sZ suf (l.map λm=>(m.1,ren p q m.2))/\∀m∈l,(aO (l.map λm=>(m.1,ren p q m.2)) (ren p q m.2):Int)=aO l m.2+(if m.2=q.tail then 1 else 0)-(if m.2=p.tail then 1 else 0):=by
 have C:suf <:+ q:=by obtain⟨k,i,e⟩:=F;have:=h.un k i;rw[e]at this;exact this.trans (agJ q)
 have P:=h.un _ G;have r:=h.ne G;have M:∀k∈l,q <:+ k.2->p <:+ k.2:=λk i c=>by obtain⟨m,n,e⟩:=h.ancS i c C;have:m=(id,p):=h.byI n G (Q m n e);simp_all
 have inj:∀a∈l,∀b∈l,ren p q a.2=ren p q b.2->a=b:=λa U b E e=>by
  by_cases K:p <:+ a.2<;>by_cases L:p <:+ b.2;obtain⟨y,w⟩:=K;obtain⟨z,t⟩:=L;rw[<- w,<- t,gr,gr]at e;exact h.byP U E (by rw[<- w,<- t,List.append_cancel_right e]);obtain⟨y,w⟩:=K;rw[<- w,gr,fG L]at e
  grind
  obtain⟨z,t⟩:=L;rw[<- t,gr,fG K]at e
  grind
  rw[fG K,fG L]at e;exact h.byP U E e
 have u:∀k∈l,p <:+ k.2->∃j∈l,j.2=k.2.tail:=λk i c=>by rcases h.par k i with e|e;rw[e]at c;exact absurd (c.eq_of_length_le P.length_le) R;omega
 have I:∀y:Pth,y≠[]->(y++q).tail=y.tail++q/\(y++p).tail=y.tail++p:=λy s=>by simp[*]
 have H:l.Nodup:=yZ h.ids;refine⟨⟨h.sne,?_,by rw[afj];exact h.ids,?_,?_⟩,?_⟩;rw[afj];have:∀A:List INm,(∀x∈A,x∈l)->A.Nodup->(A.map ((·.2)∘λm:INm=>(m.1,ren p q m.2))).Nodup:=by
  intro A;induction A with
  |nil=>intro _ _;simp
  | cons a A ih =>
    intro c W;obtain⟨X,Y⟩:=afY.1 W;rw[afe,afY];refine⟨λO=>?_,ih (λx Z=>c x (by simp[Z])) Y⟩;obtain⟨b,E,e⟩:=ae1.1 O;exact X (inj b (c b (by simp[E])) a (c a ah4) e▸E)
 exact this l (λ_ h=>h) H;intro m n;obtain⟨k,i,rfl⟩:=ae1.1 n;simp only;by_cases c:p <:+ k.2;obtain⟨y,e⟩:=c;rw[<- e,gr];exact C.trans (List.suffix_append ..);rw[fG c];exact h.un k i;intro m n;obtain⟨k,i,rfl⟩:=ae1.1 n;simp only;by_cases c:p <:+ k.2;obtain⟨y,e⟩:=c;rw[<- e,gr];right;by_cases s:y=[];subst s;obtain⟨j,v,o⟩:=F;exact⟨_,ahR v,by simp only;rw[o,fG B];rfl⟩;obtain⟨j,v,o⟩:=u k i ⟨y,e⟩;rw[<- e,(I y s).2]at o;exact⟨_,ahR v,by simp only;rw[o,gr,(I y s).1]⟩;rw[fG c];rcases h.par k i with e|⟨j,v,o⟩;exact .inl e;refine .inr ⟨_,ahR v,?_⟩;simp only;rw[o,fG (λO=>c (O.trans (agJ _)))];intro m S;have D:∀y:Pth,y++q≠[]:=λy e=>N (List.append_eq_nil_iff.1 e).2
 have w:aO (l.map λm=>(m.1,ren p q m.2)) (ren p q m.2)=(l.filter λk=>decide (ren p q k.2≠[]/\(ren p q k.2).tail=ren p q m.2)).length:=by unfold aO;rw[agR,ae6];rfl
 have hd:=Qz (f:=λk:INm=>decide (ren p q k.2≠[]/\(ren p q k.2).tail=ren p q m.2)) (g:=λk:INm=>decide (k.2≠[]/\k.2.tail=m.2)) H G λk i T=>by
  congr 1;apply propext;by_cases c:p <:+ k.2;obtain⟨j,v,o⟩:=u k i c;obtain⟨y,e⟩:=c;have s:y≠[]:=λt=>by subst t;exact T (h.byP i G e.symm)
  rw[<- e]at o⊢;rw[gr,(I y s).1,(I y s).2];rw[(I y s).2]at o;constructor;rintro⟨_,d⟩;refine⟨λV=>r (List.append_eq_nil_iff.1 V).2,?_⟩;have:j=m:=inj j v m S (by rw[o,gr,d]);rw[<- this,o];rintro⟨_,d⟩;exact⟨D _,by rw[<- d,gr]⟩;rw[fG c];by_cases hr:p <:+ m.2;obtain⟨y,e⟩:=hr;rw[<- e,gr];constructor;rintro⟨_,d⟩;exact absurd (M k i (List.IsSuffix.trans (⟨y,d.symm⟩:q <:+ k.2.tail) (agJ _))) c;rintro⟨_,d⟩;exact absurd (List.IsSuffix.trans (⟨y,d.symm⟩:p <:+ k.2.tail) (agJ _)) c;rw[fG hr]
 rw[<- w]at hd;have f1:decide (ren p q (id,p).2≠[]/\(ren p q (id,p).2).tail=ren p q m.2)=decide (m.2=q.tail):=by have t:ren p q p=q:=(by have:=gr p q [];simpa using this);simp only[t];congr 1;apply propext;by_cases hr:p <:+ m.2;obtain⟨y,e⟩:=hr;rw[<- e,gr];constructor;rintro⟨_,d⟩;have:=congrArg List.length d;rw[agA,afc]at this;have:=afP.2 N;omega;intro d;exact absurd ⟨y,d⟩ B;rw[fG hr];exact⟨λd=>d.2.symm,λd=>⟨N,d.symm⟩⟩
 have g1:decide ((id,p).2≠[]/\(id,p).2.tail=m.2)=decide (m.2=p.tail):=by congr 1;apply propext;exact⟨λd=>d.2.symm,λd=>⟨r,d.symm⟩⟩
 simp only[f1,g1,decide_eq_true_eq]at hd;have J:aO (l.map λm=>(m.1,ren p q m.2)) (ren p q m.2)+(if m.2=p.tail then 1 else 0)=aO l m.2+(if m.2=q.tail then 1 else 0):=hd;clear hd;revert J;split<;>split<;>intro J<;>omega
def NK(d:List Rdn):Pth:=d.map (cM true)
def OkD(d:List Rdn):Prop:=(prS d).2=0
instance (d:List Rdn):Decidable (OkD d):=inferInstanceAs (Decidable (_=_))
theorem QC:∀(d:List Rdn) (i:Nat),i<=32->(oo i d=0↔i+d.length<=32/\∀r∈d,r≠[]/\eH [] r=0)
 |[],i,h=>by simp[oo,h]
 | r::d,i,h=>by
   unfold oo;by_cases c:i=32
   .grind
   rw[if_neg c];by_cases a:r=[]
   .simp[*]
   rw[if_neg a];by_cases b:eH [] r=0
   .rw[if_neg (by simpa using b),QC d (i+1) ah3]
    grind
   simp[*]
theorem LT(d:List Rdn):OkD d↔d.length<=32/\(∀r∈d,r≠[]/\eH [] r=0)/\LZ d=false/\(aP false d).length<=4096:=by
 have a:=QC d 0 ah3;unfold OkD prS
 grind
theorem OkD.nil:OkD []:=(LT []).2 ⟨ah4,ah4,by rfl,by decide⟩
theorem YR(k:Bool)(c d:List Rdn):(aP k d).length<=(aP k (c++d)).length:=by
 have b:=nX (d.map (cM k)) 44;have a:=nX ((c++d).map (cM k)) 44;unfold aP
 grind
theorem OkD.app{c:List Rdn}(h:OkD (c++d)):OkD d:=by rw[LT]at h⊢;obtain⟨e,a,b,h4⟩:=h;refine⟨by simp at e;omega,λr hr=>a r (by simp[hr]),?_,afw (YR _ _ _) h4⟩;unfold LZ at b⊢;simp_all
theorem OkD.drop(h:OkD d)(n:Nat):OkD (d.drop n):=OkD.app (c:=d.take n) (by rw[ago];exact h)
theorem OkD.tail(h:OkD d):OkD d.tail:=by rw[<- ag9];exact h.drop 1
theorem OkD.len(h:OkD d):d.length<=32:=((LT d).1 h).1
theorem qL(h:OkD d):Sq d=(aP true d,0):=by unfold Sq;rw[if_neg (by simpa[OkD]using h)]
theorem Sp(h:¬OkD d):(Sq d).2≠0:=by unfold Sq;rw[if_pos (show(prS d).2≠0 from h)];exact h
theorem OkD.plain(h:OkD d):lh (aP true d)=(yY d,0):=by obtain⟨c,b,e,h4⟩:=(LT d).1 h;have a:oo 0 d=0:=(QC d 0 ah3).2 ⟨ah3,b⟩;have:=Tn d;rw[<- PP d];exact TH (QB d 0 a) (by rw[PP];omega)
theorem UN(d:List Rdn):NK (yY d)=NK d:=by unfold NK yY;rw[afj];rw[show(cM true∘sI)=cM true from funext U7]
theorem mP{e:List Rdn}(hd:OkD d)(b:OkD e):aP true d=aP true e↔NK d=NK e:=by
 constructor;intro h;have a:=hd.plain;rw[h,b.plain]at a;have:yY e=yY d:=by injection a
 rw[<- UN d,<- this,UN];intro h;unfold NK at h;unfold aP;rw[h]
theorem bA(d:List Rdn):(NK d).length=d.length:=by simp[NK]
theorem Nn :NK d=[]↔d=[]:=by simp[NK]
theorem S8(d:List Rdn)(n:Nat):NK (d.drop n)=(NK d).drop n:=by simp[NK]
theorem Mu(d:List Rdn):NK d.tail=(NK d).tail:=by simp[NK]
def gk(d b:List Rdn):Bool:=decide (OkD d)&&decide (OkD b)&&decide (b.length<=d.length)&&decide (aP true (d.drop (d.length-b.length))=aP true b)
theorem cQ{b:List Rdn}:gk d b=true↔OkD d/\OkD b/\NK b <:+ NK d:=by
 unfold gk;simp only[ae7,decide_eq_true_eq];constructor;rintro⟨⟨⟨a,c⟩,f⟩,h4⟩;refine⟨a,c,?_⟩;rw[mP (a.drop _) c,S8]at h4;rw[<- h4];exact List.drop_suffix _ _;rintro⟨a,c,f⟩;have g:=f.length_le;rw[bA,bA]at g;rw[mP (a.drop _) c,S8];obtain⟨y,e⟩:=f;have:y.length=d.length-b.length:=by have:=congrArg List.length e;rw[afc,bA,bA]at this;omega
 grind
def MC(a b:List Rdn):Bool:=decide (a.length=b.length)&&gk a b
theorem PA{a b:List Rdn}:MC a b=true↔OkD a/\OkD b/\NK a=NK b:=by unfold MC;rw[ae7,decide_eq_true_eq,cQ];constructor;rintro⟨e,d,c,h4⟩;exact⟨d,c,(h4.eq_of_length (by rw[bA,bA,e])).symm⟩;rintro⟨e,d,c⟩;exact⟨by rw[<- bA,c,bA],e,d,by rw[c];exact List.suffix_refl _⟩
structure Ent(α:Type)where
 id:Int
 nm:List Rdn
 av:α
variable {α:Type}
def cu(l:List (Ent α)):List INm:=l.map λx=>(x.id,NK x.nm)
structure TOk(suf:List Rdn)(last:Int)(l:List (Ent α)):Prop where
 sok:OkD suf
 ok:∀x∈l,OkD x.nm
 inv:sZ (NK suf) (cu l)
 ids:∀x∈l,1<=x.id/\x.id<=last
theorem cH{l:List (Ent α)}{x:Ent α}(h:x∈l):(x.id,NK x.nm)∈cu l:=ae1.2 ⟨x,h,rfl⟩
theorem TOk.byN{last:Int}{l:List (Ent α)}(h:TOk suf last l){a b:Ent α}(f:a∈l)(d:b∈l)(e:NK a.nm=NK b.nm):a=b:=by have c:=h.inv.nd;unfold cu at c;rw[afj]at c;exact bR c f d e
theorem TOk.byI{last:Int}{l:List (Ent α)}(h:TOk suf last l){a b:Ent α}(f:a∈l)(d:b∈l)(e:a.id=b.id):a=b:=by have c:=h.inv.ids;unfold cu at c;rw[afj]at c;exact bR c f d e
def atE(l:List (Ent α))(d:List Rdn):Option (Ent α):=if OkD d then l.find? (λx=>decide (NK x.nm=NK d))else none
def aN(l:List (Ent α))(d:List Rdn):Int:=match atE l d with|some x=>x.id|none=>0
def Ef(l:List (Ent α))(id:Int):Option (Ent α):=l.find? (λx=>decide (x.id=id))
def jl(l:List (Ent α))(id:Int):Nat:=match Ef l id with|some x=>aO (cu l) (NK x.nm)|none=>0
theorem bi{l:List (Ent α)}{x:Ent α}(h:atE l d=some x):OkD d/\x∈l/\NK x.nm=NK d:=by
 unfold atE at h
 grind
theorem TOk.at{last:Int}{l:List (Ent α)}(h:TOk suf last l){x:Ent α}(a:x∈l)(hd:OkD d)(e:NK d=NK x.nm):atE l d=some x:=by
 unfold atE;rw[if_pos hd];cases hf:l.find? (λx=>decide (NK x.nm=NK d))with
 |none=>exact absurd e.symm (by simpa using af7.1 hf x a)
 |some y=>rw[h.byN (agr hf) a (by rw[<- e];simpa using ags hf)]
theorem yS{l:List (Ent α)}:atE l d=none↔(OkD d->∀x∈l,NK x.nm≠NK d):=by unfold atE;simp
theorem Yc{l:List (Ent α)}{x:Ent α}(h:Ef l id=some x):x∈l/\x.id=id:=⟨agr h,by simpa using ags h⟩
theorem TOk.ent{last:Int}{l:List (Ent α)}(h:TOk suf last l){x:Ent α}(a:x∈l):Ef l x.id=some x:=by
 unfold Ef;cases hf:l.find? (λy=>decide (y.id=x.id))with
 |none=>exact absurd (af7.1 hf x a) ah4
 |some y=>rw[h.byI (agr hf) a (by simpa using ags hf)]
theorem TOk.find0{last:Int}{l:List (Ent α)}(h:TOk suf last l):aN l d=0↔atE l d=none:=by
 unfold aN;cases hf:atE l d with
 |none=>simp
 | some x =>
   have:=h.ids x (bi hf).2.1
   grind
theorem TOk.kids{last:Int}{l:List (Ent α)}(h:TOk suf last l){x:Ent α}(d:x∈l):aO (cu l) (NK x.nm)=(l.filter λk=>decide (k.nm.length=x.nm.length+1)&&gk k.nm x.nm).length:=by
 unfold aO cu;rw[agR,ae6];congr 1;refine ahC λk f=>?_
 rw[ahD];simp only[agz,ae7,decide_eq_true_eq,cQ];constructor;rintro⟨c,b⟩;have j:=congrArg List.length b;have i:=afP.2 c;rw[agA,bA,bA]at j;rw[bA]at i;exact⟨ah3,h.ok k f,h.ok x d,by rw[<- b];exact agJ _⟩;rintro⟨c,_,_,b⟩;obtain⟨y,e⟩:=b;have g:=congrArg List.length e;rw[afc,bA,bA]at g;obtain⟨a,rfl⟩:∃a,y=[a]:=List.length_eq_one_iff.1 ah3
 grind
open Go Go.Sort
def cpS(a b:List UInt8):Int:=if a<b then -1 else if b<a then 1 else 0
def cpP:Pth->Pth->Int
 |[],[]=>0
 |[],_::_=>-1
 |_::_,[]=>1
 |x::a,y::b=>if cpS x y≠0 then cpS x y else cpP a b
theorem aas(a:List UInt8):¬a<a:=List.lt_irrefl a
theorem acf{a:List UInt8}(h:a<b):¬b<a:=List.lt_asymm h
theorem aar{a c:List UInt8}(d:a<b)(e:b<c):a<c:=List.lt_trans d e
theorem adI{a:List UInt8}(c:¬a<b)(d:¬b<a):a=b:=List.le_antisymm (List.not_lt.1 d) (List.not_lt.1 c)
theorem yM(a b:List UInt8):(a<b/\cpS a b=-1)\/(a=b/\cpS a b=0)\/(b<a/\cpS a b=1):=by
 unfold cpS
 grind
theorem Us(a:List UInt8):cpS a a=0:=by unfold cpS;rw[if_neg (aas a),if_neg (aas a)]
theorem aak{a:List UInt8}(h:a<b):cpS a b=-1:=if_pos h
theorem adG{a:List UInt8}(h:b<a):cpS a b=1:=by unfold cpS;rw[if_neg (acf h),if_pos h]
theorem Uv:∀(a b:Pth),cpP b a=- cpP a b
 |[],[]=>rfl
 |[],_::_=>rfl
 |_::_,[]=>rfl
 | x::a,y::b=>by
   unfold cpP;rcases yM x y with⟨h,e⟩|⟨h,e⟩|⟨h,e⟩
   .rw[e,adG h];rfl
   .subst h;rw[e];exact Uv a b
   .rw[e,aak h];rfl
theorem Ut:∀{a b:Pth},cpP a b=0->a=b
 |[],[],_=>rfl
 |[],_::_,h=>by simp[cpP]at h
 |_::_,[],h=>by simp[cpP]at h
 | x::a,y::b,h=>by
   unfold cpP at h;rcases yM x y with⟨c,e⟩|⟨c,e⟩|⟨c,e⟩
   .omega
   .subst c;rw[e]at h;rw[Ut h]
   omega
theorem Uu:∀a:Pth,cpP a a=0
 |[]=>rfl
 |x::a=>by unfold cpP;rw[Us];simpa using Uu a
theorem RY:∀{a b c:Pth},cpP a b<0->cpP b c<0->cpP a c<0
 |[],[],_,h,_=>by exact absurd h (by decide)
 |[],_::_,[],_,h=>by exact absurd h (by show ¬(1:Int)<0;decide)
 |[],_::_,_::_,_,_=>by show(-1:Int)<0;decide
 |_::_,[],_,h,_=>by exact absurd h (by show ¬(1:Int)<0;decide)
 |_::_,_::_,[],_,h=>by exact absurd h (by show ¬(1:Int)<0;decide)
 | x::a,y::b,z::c,h1,h2=>by
   unfold cpP at h1 h2⊢;rcases yM x y with⟨g,f⟩|⟨g,f⟩|⟨g,f⟩
   .rcases yM y z with⟨d,e⟩|⟨d,e⟩|⟨d,e⟩
    .rw[aak (aar g d)];simp
    .simp_all
    omega
   .subst g;rcases yM x z with⟨d,e⟩|⟨d,e⟩|⟨d,e⟩
    .omega
    .subst d;rw[f]at h1 h2;rw[f];exact RY h1 h2
    omega
   omega
def pLt(a b:Pth):Bool:=decide (cpP a b<0)
theorem WB(a:Pth):pLt a a=false:=by unfold pLt;rw[Uu];rfl
theorem MH{a b c:Pth}(d:pLt a b=true)(e:pLt b c=true):pLt a c=true:=by unfold pLt at *;rw[decide_eq_true_eq]at *;exact RY d e
theorem Sn{a b:Pth}(d:pLt a b=false)(c:pLt b a=false):a=b:=by unfold pLt at *;rw[decide_eq_false_iff_not]at *;rw[Uv a b]at c;exact Ut ah3
theorem Zr{a b:Pth}(h:pLt a b=true):pLt b a=false:=by
 cases h2:pLt b a with
 |false=>rfl
 |true=>have:=MH h h2;rw[WB]at this;cases this
theorem PU{a b c:Pth}(e:pLt a b=false)(d:pLt b c=false):pLt a c=false:=by
 cases h3:pLt a c with
 |false=>rfl
 | true =>
   cases h4:pLt b a with
   |true=>have:=MH h4 h3;rw[d]at this;cases this
   |false=>have:=Sn e h4;subst this;rw[d]at h3;cases h3
theorem abB{β:Type}(f:β->Pth):SWO (λx y=>pLt (f x) (f y)):=
 ⟨λx=>WB _,λx y z=>MH,λx y z=>PU⟩
variable {α:Type}
def pth(x:Ent α):Pth:=(NK x.nm).reverse
def leE(x y:Ent α):Bool := !pLt (pth y) (pth x)
def fA(a:Ent α)(s:Int)(x:Ent α):Bool:=gk x.nm a.nm&&(decide (s=2) ||decide ((x.nm.length:Int)-a.nm.length=s))
def scL(l:List (Ent α))(a:Ent α)(s:Int):List (Ent α):=(l.filter (fA a s)).mergeSort leE
def scT(l:List (Ent α))(id s:Int):List Int:=match Ef l id with|none=>[]|some a=>if s<0\/2<s then[]else(scL l a s).map (·.id)
theorem Pe{x y:Ent α}(h:pth x=pth y):NK x.nm=NK y.nm:=by have:=congrArg List.reverse h;simpa[pth]using this
theorem G8(a b c:Ent α)(d:leE a b=true)(e:leE b c=true):leE a c=true:=by unfold leE at *;simp only[afA]at *;exact PU e d
theorem yE(a b:Ent α):(leE a b ||leE b a)=true:=by
 unfold leE;cases h:pLt (pth b) (pth a)with
 |false=>rfl
 |true=>rw[Zr h];rfl
theorem TOk.one{last:Int}{l:List (Ent α)}(h:TOk suf last l){a:Ent α}{s:Int}{m:List (Ent α)}(g:m.Perm (l.filter (fA a s)))(i:m.Pairwise λx y=>leE x y=true):m=scL l a s:=by have o:=ag5 (le:=leE) (λa b c=>G8 a b c) yE (l.filter (fA a s));have f:(scL l a s).Perm (l.filter (fA a s)):=aga _ _;refine ahN (le:=λx y=>leE x y=true) (λx y p k d e=>?_) i o (g.trans f.symm);have n:x∈l:=(afB.1 (g.mem_iff.1 p)).1;have j:y∈l:=(afB.1 (f.mem_iff.1 k)).1;unfold leE at d e;simp only[afA]at d e;exact h.byN n j (Pe (Sn e d))
theorem TOk.srt{last:Int}{l:List (Ent α)}(h:TOk suf last l)(a:Ent α)(s:Int){m:List (Ent α)}(d:m.Perm (l.filter (fA a s))):m.mergeSort leE=scL l a s :=
 h.one ((aga _ _).trans d) (ag5 (le:=leE) (λa b c=>G8 a b c) yE m)
theorem ZP{last:Int}{l:List (Ent α)}(h:TOk suf last l){a x:Ent α}(g:a∈l)(c:x∈l)(s:Int):fA a s x=(decide (0<=((pth x).length:Int)-(pth a).length)&&decide ((pth x).take (pth a).length=pth a)&&(decide (s=2) ||decide (((pth x).length:Int)-(pth a).length=s))):=by
 have b:∀x:Ent α,(pth x).length=x.nm.length:=λx=>by simp[pth,bA]
 unfold fA;rw[b,b];congr 1;rw[ahD,ae7,decide_eq_true_eq,decide_eq_true_eq,cQ];constructor;rintro⟨_,_,y,e⟩;have f:=congrArg List.length e;rw[afc,bA,bA]at f;refine⟨ah3,?_⟩;have:pth x=pth a++y.reverse:=by unfold pth;rw[<- e,List.reverse_append]
 simp[*];rintro⟨j,d⟩;refine⟨h.ok x c,h.ok a g,?_⟩;have i:pth a <+: pth x:=by rw[<- d];exact List.take_prefix _ _
 unfold pth at i;simp_all
variable {α:Type}
def nR(n:List Rdn)(k:Nat)(tn:List Rdn):List Rdn:=n.take (n.length-k)++tn
def TK(l:List (Ent α))(id:Int)(tn:List Rdn):Bool:=match atE l tn with|some y=>decide (y.id≠id)|none=>false
def UD(l:List (Ent α))(dn tn:List Rdn):Bool:=l.any λy=>gk y.nm dn && !decide (OkD (nR y.nm dn.length tn))
def Sr(suf:List Rdn)(l:List (Ent α))(id:Int)(dn tn:List Rdn):Int :=
 if MC dn suf=true then 53 else if ¬OkD tn\/tn=[]then 34 else if gk tn.tail dn=true then 53 else if atE l tn.tail=none then 32 else if TK l id tn=true then 68 else if UD l dn tn=true then 34 else 0
def bI(suf:List Rdn)(l:List (Ent α))(k:Int)(dn tn:List Rdn):Int :=
 if k<1\/4<k then 1
 else if k=1 then(if ¬OkD dn then 34 else if atE l dn≠none then 68 else if MC dn suf=false/\(dn=[]\/atE l dn.tail=none)then 32 else if 4096<=l.length then 80 else 0)
 else match atE l dn with
  |none=>32
  |some x=>if k=2 then(if aO (cu l) (NK x.nm)≠0 then 66 else 0)else if k=3 then 0 else Sr suf l x.id dn tn
def mM(l:List (Ent α))(last:Int)(dn:List Rdn)(v:α):List (Ent α):=l++[⟨last+1,dn,v⟩]
def MZ(l:List (Ent α))(id:Int):List (Ent α):=l.filter λx=>decide (x.id≠id)
def sP(l:List (Ent α))(id:Int)(v:α):List (Ent α):=l.map λx=>if x.id=id then{x with av:=v}else x
def mu(l:List (Ent α))(dn tn:List Rdn):List (Ent α):=l.map λx=>if gk x.nm dn=true then{x with nm:=nR x.nm dn.length tn}else x
def doT(suf:List Rdn)(l:List (Ent α))(last:Int)(k:Int)(dn tn:List Rdn)(v:α):List (Ent α)×Int :=
 if bI suf l k dn tn≠0 then(l,last)
 else if k=1 then(mM l last dn v,last+1)
 else if k=2 then(MZ l (aN l dn),last)
 else if k=3 then(sP l (aN l dn) v,last)
 else(sP (mu l dn tn) (aN l dn) v,last)
theorem TQ(l:List (Ent α))(last:Int)(dn:List Rdn)(v:α):cu (mM l last dn v)=cu l++[(last+1,NK dn)]:=by simp[cu,mM]
theorem TP(l:List (Ent α))(id:Int):cu (MZ l id)=(cu l).filter λm=>decide (m.1≠id):=by unfold cu MZ;rw[agR];rfl
theorem PY(l:List (Ent α))(id:Int)(v:α):cu (sP l id v)=cu l:=by
 unfold cu sP;rw[afj];refine afN λx _=>?_
 grind
theorem WF{n:List Rdn}(h:gk n dn=true):NK (nR n dn.length tn)=ren (NK dn) (NK tn) (NK n):=by obtain⟨_,_,a⟩:=cQ.1 h;unfold ren;rw[if_pos a,bA,bA];unfold nR;congr 1;simp[NK,aha]
theorem TOk.ndOf_ren{last:Int}{l:List (Ent α)}(h:TOk suf last l)(hd:OkD dn)(tn:List Rdn):cu (mu l dn tn)=(cu l).map λm=>(m.1,ren (NK dn) (NK tn) m.2):=by
 unfold cu mu;rw[afj,afj];refine afN λx b=>?_
 simp only[agz];by_cases a:gk x.nm dn=true;rw[if_pos a,WF a];rw[if_neg a];rw[fG λc=>a (cQ.2 ⟨h.ok x b,hd,c⟩)]
theorem TOk.nil{last:Int}(h:OkD suf)(a:suf≠[]):TOk (α:=α) suf last []:=
 ⟨h,λ_ h=>absurd h af6,sZ.nil λe=>a (Nn.1 e),λ_ h=>absurd h af6⟩
theorem TOk.cha{last:Int}{l:List (Ent α)}(h:TOk suf last l)(id:Int)(v:α):TOk suf last (sP l id v):=by
 refine⟨h.sok,λx b=>?_,by rw[PY];exact h.inv,λx b=>?_⟩
 all_goals
  obtain⟨y,a,rfl⟩:=ae1.1 b;split
  .first|exact h.ok y a|exact h.ids y a
  .first|exact h.ok y a|exact h.ids y a
structure aeI(suf:List Rdn)(l:List (Ent α))(dn:List Rdn):Prop where
 ok:OkD dn
 no:∀x∈l,NK x.nm≠NK dn
 par:NK dn=NK suf\/∃x∈l,NK x.nm=(NK dn).tail
theorem TOk.canA{last:Int}{l:List (Ent α)}(h:TOk suf last l)(d:bI suf l 1 dn tn=0):aeI suf l dn/\l.length<4096:=by
 unfold bI at d;by_cases a:OkD dn;rotate_left;simp_all;by_cases c:atE l dn=none;rotate_left;simp_all;by_cases g:MC dn suf=false/\(dn=[]\/atE l dn.tail=none);simp_all;by_cases h4:4096<=l.length;omega;refine⟨⟨a,yS.1 c a,?_⟩,ah3⟩;cases hs:MC dn suf with
 |true=>exact .inl (PA.1 hs).2.2
 | false =>
   right;have b:¬(dn=[]\/atE l dn.tail=none):=λe=>g ⟨hs,e⟩
   cases ht:atE l dn.tail with
   |none=>exact absurd (.inr ht) b
   | some x =>
     obtain⟨_,f,e⟩:=bi ht;exact⟨x,f,by rw[e,Mu]⟩
theorem TOk.add{last:Int}{l:List (Ent α)}(h:TOk suf last l)(i:0<=last)(b:aeI suf l dn)(v:α):
  TOk suf (last+1) (mM l last dn v)/\aO (cu (mM l last dn v)) (NK dn)=0/\∀q,aO (cu (mM l last dn v)) q=aO (cu l) q+if(NK dn).tail=q then 1 else 0:=by
 obtain⟨f,d,g⟩:=h.inv.added (id:=last+1) (p:=NK dn) (λm c=>by
  obtain⟨x,a,rfl⟩:=ae1.1 c;have:=h.ids x a;simp only;omega) (λm c=>by
  obtain⟨x,a,rfl⟩:=ae1.1 c;exact b.no x a) (by
  rcases b.par with e|⟨x,a,e⟩;exact .inl e;exact .inr ⟨_,cH a,e⟩)
 rw[TQ];refine⟨⟨h.sok,λx a=>?_,by rw[TQ];exact f,λx a=>?_⟩,d,g⟩;rcases ae2.1 a with a|a;exact h.ok x a;rw[afl.1 a];exact b.ok;rcases ae2.1 a with a|a;have:=h.ids x a;omega
 grind
theorem TOk.del{last:Int}{l:List (Ent α)}(h:TOk suf last l){x:Ent α}(b:x∈l)(e:aO (cu l) (NK x.nm)=0):
  TOk suf last (MZ l x.id)/\∀q,aO (cu (MZ l x.id)) q+(if(NK x.nm).tail=q then 1 else 0)=aO (cu l) q:=by
 obtain⟨d,c⟩:=h.inv.deleted (cH b) e;rw[TP];refine⟨⟨h.sok,λy a=>h.ok y (afB.1 a).1,by rw[TP];exact d,λy a=>h.ids y (afB.1 a).1⟩,c⟩
structure ad0(suf:List Rdn)(l:List (Ent α))(x:Ent α)(dn tn:List Rdn):Prop where
 mem:x∈l
 ok:OkD dn
 nk:NK x.nm=NK dn
 tok:OkD tn
 tne:tn≠[]
 nos:NK dn≠NK suf
 nun:¬NK dn <:+ (NK tn).tail
 par:∃y∈l,NK y.nm=(NK tn).tail
 oth:∀y∈l,NK y.nm=NK tn->y=x
 all:∀y∈l,gk y.nm dn=true->OkD (nR y.nm dn.length tn)
theorem TOk.canM{last:Int}{l:List (Ent α)}(h:TOk suf last l){x:Ent α}(n:atE l dn=some x)(i:Sr suf l x.id dn tn=0):ad0 suf l x dn tn:=by
 obtain⟨hd,g,e⟩:=bi n;unfold Sr at i;by_cases j:MC dn suf=true;simp_all;by_cases k:¬OkD tn\/tn=[];simp_all;have f:OkD tn:=by simp_all
 by_cases o:gk tn.tail dn=true;simp_all;by_cases h4:atE l tn.tail=none;simp_all;by_cases b:TK l x.id tn=true;simp_all;by_cases p:UD l dn tn=true;simp_all;refine⟨g,hd,e,f,λc=>k (.inr c),λc=>j (PA.2 ⟨hd,h.sok,c⟩),λc=>o (cQ.2 ⟨f.tail,hd,by rw[Mu];exact c⟩),?_,λy a c=>?_,λy a q=>?_⟩;cases d:atE l tn.tail with
 |none=>exact absurd d h4
 | some y =>
   obtain⟨_,a,m⟩:=bi d;exact⟨y,a,by rw[m,Mu]⟩
 have:=h.at a f c.symm;unfold TK at b;rw[this]at b;simp only[decide_eq_true_eq,ne_eq,ag6]at b;exact h.byI a g b;have d:=agI.1 (by simpa[UD]using p:(l.any λy=>gk y.nm dn && !decide (OkD (nR y.nm dn.length tn)))=false) y a;simp_all
theorem TOk.mov{last:Int}{l:List (Ent α)}(h:TOk suf last l){x:Ent α}(a:ad0 suf l x dn tn):
  TOk suf last (mu l dn tn)/\∀y∈l,(aO (cu (mu l dn tn)) (ren (NK dn) (NK tn) (NK y.nm)):Int)=aO (cu l) (NK y.nm)+(if NK y.nm=(NK tn).tail then 1 else 0)-(if NK y.nm=(NK dn).tail then 1 else 0):=by
 have d:(x.id,NK dn)∈cu l:=by rw[<- a.nk];exact cH a.mem
 obtain⟨g,f⟩:=h.inv.moved d a.nos (λe=>a.tne (Nn.1 e)) a.nun (by
  obtain⟨y,b,e⟩:=a.par;exact⟨_,cH b,e⟩) (λm d e=>by
  obtain⟨y,b,rfl⟩:=ae1.1 d;rw[a.oth y b e])
 rw[h.ndOf_ren a.ok];refine⟨⟨h.sok,λy b=>?_,by rw[h.ndOf_ren a.ok];exact g,λy b=>?_⟩,λy b=>f _ (cH b)⟩;obtain⟨z,c,rfl⟩:=ae1.1 b;split;rename_i i;exact a.all z c i;exact h.ok z c;obtain⟨z,c,rfl⟩:=ae1.1 b;split;exact h.ids z c;exact h.ids z c
theorem TOk.done{last:Int}{l:List (Ent α)}(h:TOk suf last l)(f:0<=last)(k:Int)(dn tn:List Rdn)(v:α):TOk suf (doT suf l last k dn tn v).2 (doT suf l last k dn tn v).1/\last<=(doT suf l last k dn tn v).2/\(doT suf l last k dn tn v).2<=last+1/\(doT suf l last k dn tn v).1.length<=l.length+1:=by
 unfold doT;by_cases a:bI suf l k dn tn=0;rotate_left
 grind
 rw[if_neg (by simpa using a)];by_cases c:k=1;subst c;rw[if_pos rfl];exact⟨(h.add f (h.canA a).1 v).1,by simp only;omega,by simp only;omega,by simp[mM]⟩;rw[if_neg c];unfold bI at a;by_cases e:k<1\/4<k;omega;rw[if_neg e,if_neg c]at a;cases hx:atE l dn with
 |none=>rw[hx]at a;simp at a
 | some x =>
   rw[hx]at a;simp only at a;have g:aN l dn=x.id:=(by unfold aN;rw[hx]);rw[g];by_cases d:k=2
   .rw[if_pos d]at a⊢;by_cases b:aO (cu l) (NK x.nm)=0
    .exact⟨(h.del (bi hx).2.1 b).1,agS _,by simp only;omega,Nat.le_succ_of_le (ahb _ _)⟩
    omega
   rw[if_neg d]at a⊢;by_cases b:k=3
   .rw[if_pos b];exact⟨h.cha _ _,agS _,by simp only;omega,by simp[sP]⟩
   rw[if_neg b]at a⊢;exact⟨(h.mov (h.canM hx a)).1.cha _ _,agS _,by simp only;omega,by simp[sP,mu]⟩
end Go.Proofs.YtajkbcmleihaoaaGreatDoor.Av
set_option maxRecDepth 100000
namespace Go.Proofs.YtajkbcmleihaoaaGreatDoor.Av
open Go
def mY:LSO:=[Aq 2]
def mX:LSO:=[Aa 3 0,AA 4 3]
def mW:LSO:=[Aq 2]
def mV:LSO:=[Aa 5 0,Ae 6 5,Ad 7 0 6,Ac 8 1 7,B5 9 50 8,Aa 2 9]
def jT:aI:=⟨10,(ahW mY [] (.seq (ahW mX Cd (ahY 4 (.sreg mW []))) (ahW mV Ci .ret))),[(.tmp 2)]⟩
attribute [push_cast] mY mX mW mV
theorem Eg:ah1 33=ah2 jT:=ah5
def ti:LSO:=[Ab 2 0]
def th:LSO:=[Aa 3 0,AA 4 3]
def tf:LSO:=[Ab 2 0]
def te:LSO:=[Aa 5 0,Ae 6 5,Ad 7 1 6,Ac 8 1 7,o1 9 (.mlen (tm 8)),Aa 2 9]
def ot:aI:=⟨10,(ahW ti [] (.seq (ahW th Cd (ahY 4 (.sreg tf []))) (ahW te Ci .ret))),[(.tmp 2)]⟩
attribute [push_cast] ti th tf te
theorem JL:ah1 25=ah2 ot:=ah5
def Hw:LSO:=[Aq 2]
def Hv:LSO:=[Aq 3]
def Hu:LSO:=[Aa 6 0,Af 7 6,Ab 8 0]
def Ht:LSO:=[Ao 9 8 7]
def Hs:LSO:=[Ak 10 2 6 8,Az 11 2 10,Bu 5,Ai 2 5 11]
def Hr:List (aj×Kd):=
 [Ar 12 3,As 13 0 5,Au 14 1 13 0 0,As 15 1 5,Au 16 1 15 0 0,AM 17 93 16 0 0,od 18 (.build [(.str []),(.sl [] 0 (some 0))] [(0,(1,(tm 14))),(1,(1,(tm 17)))]) .pure,
 od 19 (.bslice false 2 1 [(.str []),(.sl [] 0 (some 0))] [(0,(2,(tm 18)))]) (.read 0 0)]
def En:List aj :=
 [⟨(some 20),(.app 1 2 40 [(.str []),(.sl [] 0 (some 0))] (tm 12) (tm 19)),none⟩,⟨(some 3),(.mv (tm 20)),none⟩]
def Hq:LSO:=[Aj 21 8 1,Aa 8 21]
def Hp:LSO:=[Aa 22 3,Aa 2 22]
def GD:aI:=⟨23,(ahW Hw [] (ahW Hv [] (.seq (ahW Hu [] (ahZ 0 (ahW Ht [] (.seq (ah0 9 0) (.seq (.block 1 (ahW Hs Ce (.dregM Hr En Cl))) (.sreg Hq Cd)))))) (ahW Hp Cd .ret)))),[(.tmp 2)]⟩
attribute [push_cast] Hw Hv Hu Ht Hs Hr En Hq Hp
theorem QH:ah1 68=ah2 GD:=ah5
def oZ:LSO:=[Aq 4,Aq 5]
def oY:LSO:=[Aa 7 0,AA 8 7,Aa 9 8,.grp none 9 false
 [Ah 10 9 0,Bv 11 9 10,A7 12 9 1 11,A4 13 9 1 12,Ah 14 9 1,og 15 9 false (.mget .int false .nilptr (tm 13) (tm 14)),BO 16 9 15]
 17 (tm 16)]
def oX:LSO:=[Aq 4,Aq 5]
def oW:LSO:=[Aa 18 0,Ae 19 18,Ad 20 1 19,Ac 21 1 20,Aa 22 1,AX 23 21 22,Aa 6 23]
def oV:LSO:=[Aa 24 6,Ae 25 24,Ad 26 0 25,Ac 27 1 26,B5 28 50 27,Aa 29 6,Ae 30 29,Ad 31 2 30,Ac 32 1 31,Ag 33 68 32,Aa 4 28,Aa 5 33]
def eC:aI:=⟨34,(ahW oZ [] (.seq (ahW oY Cf (ahY 17 (.sreg oX []))) (ahW oW Ch (.seq (.sdreg oV [.pure,(.read 0 0),.pure,(.read 0 0),(.read 0 0),.pure,(.read 0 0),.pure,(.read 0 0)] C6) .ret)))),[(.tmp 4),(.tmp 5)]⟩
attribute [push_cast] oZ oY oX oW oV
theorem nY:ah1 34=ah2 eC:=ah5
def HD:LSO:=[Aq 2]
def HC:LSO:=[o1 3 (.alloc [(.sl [] 0 (some 0))])]
def HB:LSO:=[Aa 8 0,Ag 9 128 8]
def HA:LSO:=[Aa 5 11]
def Hz:LSO:=[Aa 13 5,Bc 14 13,Ag 15 61 14,Aa 12 15,Am 16 12,Ap 17 12,Aa 6 16,Aa 7 17]
def Hy:LSO:=[Ac 18 1 3,Aa 19 6,AN 20 19,BP 21 18 20,Ai 1 3 21]
def Hx:LSO:=[Ac 22 1 3,Aa 2 22]
def GE:aI:=⟨23,(ahW HD [] (ahW HC [] (.seq (ahW HB Cd (.block 0 (.rangeF (tm 9) [10,11] (.sreg HA []) (.block 1 (ahW Hz CE (.sreg Hy Cq)))))) (ahW Hx Cd .ret)))),[(.tmp 2)]⟩
attribute [push_cast] HD HC HB HA Hz Hy Hx
theorem QI:aK Tryz.prog (λr i=>if r=5/\i=3 then 2 else 1) 94=some GE.raw:=ah5
def oU:LSO:=[A3 3 0,Aq 6]
def oT:LSO:=[Ac 12 1 3,AA 13 12,Aa 14 13,.grp none 14 false
 [A4 15 14 1 3,Bv 16 14 15,A7 17 14 1 16,A4 18 14 1 17,Ah 19 14 1,og 20 14 false (.mget .int false .nilptr (tm 18) (tm 19)),BO 21 14 20]
 22 (tm 21),Aa 23 22,.grp none 23 false
 [Ah 24 23 2,BQ 25 23 24 0]
 26 (tm 25),Aa 27 26,.grp none 27 false
 [Ah 28 27 2,AD 29 27 28 2]
 30 (tm 29)]
def oS:LSO:=[Aq 6]
def oR:LSO:=[Ac 31 1 3,Ae 32 31,Ad 33 1 32,Ac 34 1 33,Aa 35 1,AX 36 34 35,Ae 37 36,Ad 38 1 37,Ac 39 1 38,Aa 7 39]
def oQ:LSO:=[Aq 8]
def oP:LSO:=[Ac 40 1 3,Ae 41 40,Ad 42 1 41,Ac 43 1 42,o1 44 (.mrange (tm 43))]
def oO:LSO:=[o1 45 (.mnext (tm 44)),Am 46 45]
def oN:LSO:=[o1 47 (.mentry (tm 44)),Am 48 47,Ap 49 47,Aa 9 48,Aa 10 49]
def oM:LSO:=[Aa 50 10,Ae 51 50,Ad 52 1 51,Ac 53 1 52,Af 54 53,Aa 55 7,Af 56 55,Bm 57 54 56,Aa 11 57]
def oL:LSO:=[Aa 58 11,Bd 59 58 0,Aa 60 59,.grp none 60 true
 [An 61 60 10,B6 62 60 61,AT 63 60 1 62,AO 64 60 1 63,An 65 60 7,Bn 66 60 65,og 67 60 true (.slV 1 (tm 64) none (some (tm 66)) none),An 68 60 7,B7 69 60 71 67 68]
 70 (tm 69),Aa 71 70,.grp none 71 true
 [An 72 71 2,AY 73 71 72 2,An 74 71 73,.grp (some (71,true)) 74 false
 [Ah 75 74 11,Ah 76 74 2,og 77 74 false (.bin .eql (tm 75) (tm 76))]
 78 (tm 77)]
 79 (tm 78)]
def m8:LSO:=[Aa 80 8,Aa 81 9,o1 82 (.bslice false 1 1 [(.int .i64 0)] [(0,(1,(tm 81)))]),o1 83 (.app 2 1 8 [(.int .i64 0)] (tm 80) (tm 82)),Aa 8 83]
def m7:LSO:=[Aa 84 8,o1 85 (.mkfn 73 [(tm 3)]),Ax 86 72 84 85]
def mZ:LSO:=[Aa 87 8,Aa 6 87]
def bq:aI:=⟨88,(ahW oU [] (.seq (ahW oT Ck (ahY 30 (.sreg oS []))) (ahW oR Cl (ahW oQ [] (.seq (ahW oP Cg (ahZ 0 (ahW oO Cd (.seq (ah0 46 0) (.block 1 (ahW oN Co (ahW oM C2 (ahW oL Ci (ahX 79 (.sreg m8 Cg) .skip))))))))) (ahW m7 Cu (ahW mZ Cd .ret))))))),[(.tmp 6)]⟩
attribute [push_cast] oU oT oS oR oQ oP oO oN oM oL m8 m7 mZ
theorem eB:aK Tryz.prog (λr i=>if r=10/\i=3 then 2 else 1) 32=some bq.raw:=ah5
def qY:LSO:=[Al 6]
def qX:LSO:=[Aa 7 1,Af 8 7,Aa 9 2,Af 10 9,Be 11 8 10,Aa 12 11,.grp none 12 true
 [An 13 12 1,An 14 12 2,B7 15 12 77 13 14]
 16 (tm 15),Aa 6 16]
def fq:aI:=⟨17,(ahW qY [] (ahW qX Ck .ret)),[(.tmp 6)]⟩
attribute [push_cast] qY qX
theorem qJ:ah1 36=ah2 fq:=ah5
def lQ:LSO:=[A3 5 2,Ab 6 0]
def lP:LSO:=[Ad 16 2 5,Ac 17 1 16,Ag 18 35 17,Aa 15 18,Am 19 15,Ap 20 15,Aa 7 19,Aa 8 20]
def lO:LSO:=[Aa 22 0,Ad 23 1 5,Ac 24 1 23,Aa 25 0,Ae 26 25,Ad 27 0 26,Ac 28 1 27,AZ 29 36 22 24 28,Aa 21 29]
def lN:LSO:=[Ab 6 53]
def lM:LSO:=[Aa 31 8,Ay 32 31 0,Aa 33 32,.grp none 33 false
 [A7 34 33 2 5,A4 35 33 1 34,AH 36 33 35,Bo 37 33 36 0]
 38 (tm 37),Aa 30 38]
def lL:LSO:=[Ab 6 34]
def lK:LSO:=[Ad 40 2 5,Ac 41 1 40,BR 42 41 1,Ad 43 1 5,Ac 44 1 43,Ax 45 77 42 44,Aa 39 45]
def lJ:LSO:=[Ab 6 53]
def lI:LSO:=[Aa 47 0,Ad 48 2 5,Ac 49 1 48,BR 50 49 1,Ax 51 26 47 50,A0 52 51 0,Aa 46 52]
def lH:LSO:=[Ab 6 32]
def k9:LSO:=[Aa 53 0,Ad 54 2 5,Ac 55 1 54,Ax 56 26 53 55,Aa 9 56]
def k8:LSO:=[Aa 57 9,A9 58 57 0,Aa 59 58,.grp none 59 true
 [An 60 59 9,An 61 59 1,og 62 59 true (.bin .neq (tm 60) (tm 61))]
 63 (tm 62)]
def k7:LSO:=[Ab 6 68]
def kZ:LSO:=[Aa 64 0,Aa 65 1,Ba 66 32 64 65 2,Af 67 66,Ab 68 0]
def kY:LSO:=[Ao 69 68 67]
def kX:LSO:=[Ak 70 1 66 68,Ac 71 1 70,Aa 11 71]
def kV:LSO:=[Aa 72 0,Ae 73 72,Ad 74 1 73,Ac 75 1 74,Aa 76 11,AX 77 75 76,Ae 78 77,Ad 79 0 78,Ac 80 1 79,Aa 12 80]
def kU:LSO:=[Ad 82 2 5,Ac 83 1 82,Aa 84 12,Aa 85 12,Af 86 85,Ad 87 1 5,Ac 88 1 87,Af 89 88,Bm 90 86 89,o1 91 (.slV 1 (tm 84) none (some (tm 90)) none),
 Ax 92 50 83 91,Ag 93 35 92,Aa 81 93,Am 94 81,Ap 95 81,Aa 13 94,Aa 14 95]
def kT:LSO:=[Aa 96 14,Ay 97 96 0]
def kS:LSO:=[Ab 6 34]
def kQ:LSO:=[Aj 98 68 1,Aa 68 98]
def kP:LSO:=[Ab 6 0]
def aD:aI:=⟨99,(ahW lQ [] (ahW lP Ck (.seq (.block 0 (.seq (.sdreg lO [.pure,.pure,(.read 0 0),.pure,(.read 0 0),.pure,(.read 0 0)] C2) (ahX 21 (ahW lN [] .ret) (ahW lM Cg (ahX 30 (ahW lL [] .ret) (.seq (.sdreg lK [.pure,(.read 0 0),(.read 0 0),.pure,(.read 0 0)] Ch) (ahX 39 (ahW lJ [] .ret) (ahW lI Ch (ahY 46 (.sreg lH [])))))))))) (.seq (ahW k9 Cg (ahW k8 Cf (ahY 63 (.sreg k7 [])))) (.seq (ahW kZ C7 (ahZ 1 (ahW kY [] (.seq (ah0 69 1) (.seq (.block 2 (ahW kX Ce (ahW kV Cl (.seq (.sdreg kU [.pure,(.read 0 0),.pure,.pure,(.read 0 0),.pure,(.read 0 0),(.read 0 0),.pure,(.read 0 0),(.read 0 0),(.read 0 0),.pure,.pure,.pure,.pure] C8) (ahW kT Cd (ahY 97 (.sreg kS []))))))) (.sreg kQ Cd)))))) (ahW kP [] .ret)))))),[(.tmp 6)]⟩
attribute [push_cast] lQ lP lO lN lM lL lK lJ lI lH k9 k8 k7 kZ kY kX kV kU kT kS kQ kP
theorem bf:ah1 37=ah2 aD:=ah5
def tq:LSO:=[Aa 7 0,Ae 8 7,Ad 9 0 8,Ac 10 1 9,Ae 11 10,Ad 12 1 11,Ac 13 1 12,Aa 14 1,AX 15 13 14,Aa 6 15]
def tp:LSO:=[Aa 16 6,Aa 17 6,Aa 18 2,B5 19 50 18,Aa 20 2,Ag 21 94 20,Ae 22 16,Ad 23 0 22,Ai 1 23 19,Ae 24 17,Ad 25 1 24,Ai 1 25 21]
def tj:List (aj×Kd):=
 [Ar 26 0,A1 27 26 0 1,As 28 0 27,Au 29 1 28 0 1,A1 30 29 0 1,As 31 2 30,Au 32 1 31 0 1,Ar 33 6,A1 34 33 0 0,As 35 1 34,Au 36 1 35 0 0,od 37 (.call 97 [(tm 36)]) .eff,
 AM 38 96 37 0 0,od 39 (.call 95 [(tm 38),(.av (.str [44]))]) (.read 0 0),Ar 40 1]
def rx:List aj :=
 [⟨none,(.mset .str (tm 32) (tm 39) (tm 40)),none⟩]
def ou:aI:=⟨41,(ahW tq Cl (ahW tp CF (.dregM tj rx [false,false,false,false,false,false,false,false,false,false,false,false,false,false,false]))),[]⟩
attribute [push_cast] tq tp tj rx
theorem JM:aK Tryz.prog (λr i=>if r=2/\i=11 then 3 else 1) 69=some ou.raw:=ah5
def td:LSO:=[A3 1 0,o1 2 (.mv (.av .nilfunc))]
def tc:LSO:=[o1 3 (.mkfn 130 [(tm 1)]),Aa 2 3]
def oq:aI:=⟨4,(ahW td [] (ahW tc Cd .ret)),[(.tmp 2)]⟩
attribute [push_cast] td tc
theorem JK:ah1 97=ah2 oq:=ah5
def oK:LSO:=[A3 2 0]
def oJ:LSO:=[Ac 5 1 1,Ag 6 131 5]
def oI:LSO:=[Aa 4 8]
def oH:LSO:=[Ac 9 1 2,Aa 10 4,B8 11 9 10,A6 12 11]
def lB:aI:=⟨13,(ahW oK [] (ahW oJ Cd (.block 0 (.rangeF (tm 6) [7,8] (.sreg oI []) (.block 1 (ahW oH Cf (ahX 12 .ret .skip))))))),[]⟩
attribute [push_cast] oK oJ oI oH
theorem GF:ah1 130=ah2 lB:=ah5
def ng:LSO:=[Aa 7 0,Ae 8 7,Ad 9 0 8,Ac 10 1 9,Aa 11 1,BR 12 11 1,Ax 13 26 10 12,Aa 6 13]
def nf:LSO:=[Aa 14 6,A9 15 14 0]
def m9:LSO:=[Aa 16 0,Ae 17 16,Ad 18 0 17,Ac 19 1 18,Ae 20 19,Ad 21 1 20,Ac 22 1 21,Aa 23 6,AX 24 22 23,Ae 25 24,Ad 26 3 25,Ac 27 1 26,Aa 28 2,AB 29 27 28,
 Ae 30 24,Ad 31 3 30,Ai 1 31 29]
def dB:aI:=⟨32,(.seq (.sdreg ng [.pure,(.read 0 0),.pure,(.read 0 0),.pure,(.read 0 0)] Ck) (ahW nf Cd (ahX 15 (.sreg m9 [false,false,false,false,false,false,false,false,false,false,false,false,false,false,false,false]) .skip))),[]⟩
attribute [push_cast] ng nf m9
theorem mt:ah1 70=ah2 dB:=ah5
def Li:LSO:=[Al 4]
def Lh:LSO:=[Aa 10 0,Ag 11 35 10,Aa 9 11,Am 12 9,Ap 13 9,Aa 5 12,Aa 6 13]
def Lg:LSO:=[Aa 15 1,Ag 16 61 15,Aa 14 16,Am 17 14,Ap 18 14,Aa 7 17,Aa 8 18]
def Lf:LSO:=[Aa 19 6,Ay 20 19 0,Aa 21 20,.grp none 21 false
 [Ah 22 21 8,BS 23 21 22 0]
 24 (tm 23),Aa 25 24,.grp none 25 false
 [Ah 26 25 0,AH 27 25 26,Ah 28 25 1,AH 29 25 28,og 30 25 false (.bin .lss (tm 27) (tm 29))]
 31 (tm 30)]
def Le:LSO:=[Al 4]
def Ld:LSO:=[Aa 32 0,Aa 33 0,Af 34 33,Aa 35 1,Af 36 35,Bm 37 34 36,o1 38 (.slV 1 (tm 32) (some (tm 37)) none none),o1 39 (.call 76 [(tm 38),(.av (.bool true))]),
 Aa 40 7,Be 41 39 40,Aa 4 41]
def fK:aI:=⟨42,(ahW Li [] (ahW Lh Ch (ahW Lg Cm (.seq (ahW Lf Ci (ahY 31 (.sreg Le []))) (ahW Ld Cv .ret))))),[(.tmp 4)]⟩
attribute [push_cast] Li Lh Lg Lf Le Ld
theorem mU:ah1 77=ah2 fK:=ah5
def du:LSO:=[A3 1 0,o1 2 (.mv (.av .nilfunc))]
def dr:LSO:=[o1 3 (.mkfn 160 [(tm 1)]),Aa 2 3]
def bU:aI:=⟨4,(ahW du [] (ahW dr Cd .ret)),[(.tmp 2)]⟩
attribute [push_cast] du dr
theorem jH:ah1 128=ah2 bU:=ah5
def dc:LSO:=[Ac 4 1 1,Af 5 4,AP 6 5 1,Aa 3 6]
def db:LSO:=[Aa 7 3,Bd 8 7 0]
def da:LSO:=[Aa 11 0,Aa 12 3,Ac 13 1 1,Aa 14 3,Ak 15 1 13 14,Ac 16 1 15,o1 17 (.callv (tm 11) [(tm 12),(tm 16)]),A6 18 17]
def cZ:LSO:=[Aa 9 3,AP 10 9 1,Aa 3 10]
def bM:aI:=⟨19,(ahW dc Cf (ahZ 0 (.seq (ahW db Cd (ah0 8 0)) (.seq (.block 1 (ahW da Ck (ahX 18 .ret .skip))) (.sreg cZ Ce))))),[]⟩
attribute [push_cast] dc db da cZ
theorem iU:ah1 160=ah2 bM:=ah5
def dM:LSO:=[A3 1 0,o1 2 (.mv (.av .nilfunc))]
def dL:LSO:=[o1 3 (.mkfn 161 [(tm 1)]),Aa 2 3]
def bZ:aI:=⟨4,(ahW dM [] (ahW dL Cd .ret)),[(.tmp 2)]⟩
attribute [push_cast] dM dL
theorem jV:ah1 131=ah2 bZ:=ah5
def dq:LSO:=[Ac 4 1 1,Af 5 4,AP 6 5 1,Aa 3 6]
def dm:LSO:=[Aa 7 3,Bd 8 7 0]
def dl:LSO:=[Aa 11 0,Aa 12 3,Ac 13 1 1,Aa 14 3,Ak 15 1 13 14,Ac 16 1 15,o1 17 (.callv (tm 11) [(tm 12),(tm 16)]),A6 18 17]
def dj:LSO:=[Aa 9 3,AP 10 9 1,Aa 3 10]
def bP:aI:=⟨19,(ahW dq Cf (ahZ 0 (.seq (ahW dm Cd (ah0 8 0)) (.seq (.block 1 (ahW dl Ck (ahX 18 .ret .skip))) (.sreg dj Ce))))),[]⟩
attribute [push_cast] dq dm dl dj
theorem jr:ah1 161=ah2 bP:=ah5
def iZ:LSO:=[Aq 2]
def iY:LSO:=[Aa 3 0,o1 4 (.call 129 [(.av (.sl [] 0 (some 0))),(tm 3)]),Aa 2 4]
def ft:aI:=⟨5,(ahW iZ [] (ahW iY Ce .ret)),[(.tmp 2)]⟩
attribute [push_cast] iZ iY
theorem sR:ah1 96=ah2 ft:=ah5
def dz:LSO:=[A3 2 0,Aq 4]
def dy:LSO:=[Aa 6 1]
def dx:LSO:=[Aa 5 7]
def dw:LSO:=[Ac 8 1 2,Aa 9 5,AN 10 9,BP 11 8 10,Ai 1 2 11]
def dv:LSO:=[Ac 12 1 2,Aa 4 12]
def bV:aI:=⟨13,(ahW dz [] (.seq (ahW dy [] (.block 0 (.rangeF (tm 6) [7] (.sreg dx []) (.block 1 (.sreg dw Cq))))) (ahW dv Cd .ret))),[(.tmp 4)]⟩
attribute [push_cast] dz dy dx dw dv
theorem jI:aK Tryz.prog (λr i=>if r=3/\i=3 then 2 else 1) 129=some bV.raw:=ah5
def fo:LSO:=[Al 4]
def fm:LSO:=[Aa 6 0,Af 7 6,Aa 8 1,Af 9 8,AU 10 7 9]
def fk:LSO:=[Al 4]
def fj:LSO:=[Aa 11 0,Af 12 11,Ab 13 0]
def fi:LSO:=[Ao 14 13 12]
def fh:LSO:=[Aa 15 13,Aa 5 15]
def fg:LSO:=[Aa 16 0,Aa 17 5,Ak 18 1 16 17,Ac 19 1 18,Aa 20 1,Aa 21 5,Ak 22 1 20 21,Ac 23 1 22,AU 24 19 23]
def ff:LSO:=[Al 4]
def fe:LSO:=[Aj 25 13 1,Aa 13 25]
def fc:LSO:=[AC 4]
def bh:aI:=⟨26,(ahW fo [] (.seq (ahW fm Cg (ahY 10 (.sreg fk []))) (.seq (ahW fj Cj (ahZ 0 (ahW fi [] (.seq (ah0 14 0) (.seq (.block 1 (ahW fh Cd (.seq (.sdreg fg [.pure,.pure,(.read 0 0),(.read 0 0),.pure,.pure,(.read 0 0),(.read 0 0)] C2) (ahY 24 (.sreg ff []))))) (.sreg fe Cd)))))) (ahW fc [] .ret)))),[(.tmp 4)]⟩
attribute [push_cast] fo fm fk fj fi fh fg ff fe fc
theorem eX:ah1 71=ah2 bh:=ah5
attribute [push_cast] jT ot GD eC GE bq fq aD ou oq lB dB fK bU bM bZ bP ft bV bh
variable {L:List Blk}{K:aeX}
set_option maxHeartbeats 8000000
set_option maxRecDepth 100000
theorem aej{a b:Pth}{E nb:Nat}{ca cb:Option Nat}(z:E=a.length)(f:nb=b.length)(F:a.length<=1100000)(h:K (.bool (decide (a=b))) L):
  aeW 71 [.sl (ay a) E ca,.sl (ay b) nb cb] L K:=by
 subst z f;by_cases D:a.length=b.length;rotate_left;rw[decide_eq_false (λc=>D (by rw[c]))]at h;replace h:=hid h;have g:¬(a.length:Int)=(b.length:Int):=ah3;refine aeV eX ?_;exact ag h.o;obtain⟨n,p⟩:=aeS (a.length);have f:b.length=n:=ah3;obtain⟨R,w⟩:=aeS (decide (a=b));rw[w]at h;replace h:=hid h;have j:decide (a.drop 0=b.drop 0)=R:=w;replace j:=hid j;rw[p,f];rw[p]at F;have M:(ay a).length=n:=by simp[p]
 have N:(ay b).length=n:=by simp[f]
 replace p:=hid p;replace f:=hid f;clear D w;refine aeV eX ?_;refine ao (λm T' L'=>∃k:Nat,m=n-k/\k<=n/\Hid (decide (a.drop k=b.drop k)=R)/\T'=[(13,.int .i64 (k:Int)),(12,.int .i64 n),(0,.sl (ay a) n ca),(1,.sl (ay b) n cb)]/\L=L') (CutS (b:=ae0 _)) ⟨0,rfl,ae5 _,j,rfl,rfl⟩ ?_;rintro _ _ L' ⟨k,rfl,I,t,rfl,e⟩;subst e;clear j;have d:=t.o;by_cases q:k<n;have g1:(k:Int)<(n:Int):=ah3;have J:=aeU k ah3;have l1:k<a.length:=by rw[p.o];exact q
 have r:k<b.length:=by rw[f.o];exact q
 have G:(ay a).getD k .undef=.str (a.getD k []):=by simp[l1]
 have H:(ay b).getD k .undef=.str (b.getD k []):=by simp[r]
 have v:a.drop k=a.getD k []::a.drop (k+1):=by rw[afL l1];simp[l1]
 have C:b.drop k=b.getD k []::b.drop (k+1):=by rw[afL r];simp[r]
 rw[v,C]at d;obtain⟨x,A⟩:=aeS (a.getD k []);obtain⟨y,u⟩:=aeS (b.getD k []);rw[A]at G d;rw[u]at H d;by_cases s:x=y;subst s;have l:decide (a.drop (k+1)=b.drop (k+1))=R:=by rw[<- d];simp
 replace l:=hid l;clear t d v C A u l1 r;refine wk ?_;exact ah8 ah3 ah6 ⟨k+1,rfl,q,hid l.o,rfl,rfl⟩;have hr:R=false:=by rw[<- d];simp[s]
 have i:=h.o;rw[hr]at i;replace i:=hid i;clear t d v C A u l1 r hr;refine wk ?_;exact ag i.o;have B:k=n:=ah3;subst B;have g1:¬(k:Int)<(k:Int):=ah3;have hr:R=true:=by rw[<- d,agu (by rw[p.o];exact ae0 _),agu (by rw[f.o];exact ae0 _)];rfl
 have i:=h.o;rw[hr]at i;replace i:=hid i;clear t d hr;refine wk ?_;exact ag i.o
open Go Go.MapKept
section
variable {P:Program}{w0:World}{S0:SB}{E:Env}{L:List Blk}{w:World}{T:Tm}{a:Act}{N:Nat}
theorem aA.mem1:∀{es:List (AV×AV×Nat)}{rs:List MapEntry}{f:MapEntry},aA E es rs->f∈rs->∃e∈es,VR E e.1 f.key/\VR E e.2.1 f.val/\e.2.2=f.born
 |[],rs,f,h,a=>by simp only[aA]at h;subst h;cases a
 | (k,x,b)::es,rs,f,h,a=>by
   obtain⟨g,t,rfl,g1,c,g3,g4⟩:=h;rcases afp.1 a with rfl|a
   .simp[*]
   .obtain⟨e,he,h1⟩:=aA.mem1 g4 a
    grind
theorem aA.mem2:∀{es:List (AV×AV×Nat)}{rs:List MapEntry}{e:AV×AV×Nat},aA E es rs->e∈es->∃f∈rs,e.2.2=f.born
 |[],rs,e,h,a=>by cases a
 | (k,x,b)::es,rs,e,h,a=>by
   obtain⟨g,t,rfl,g1,c,g3,g4⟩:=h;rcases afp.1 a with rfl|a
   .simp[*]
   .obtain⟨f,hf,h1⟩:=aA.mem2 g4 a
    grind
theorem Ra{t:TypeId}{v:Value}{i j ck a last:Nat}{seen:List Nat}{es:List (AV×AV×Nat)}(p:Rel w0 S0 E L w)(A:L[i]?=some (.miter (some j) a seen last))(R:L[j]?=some (.map es ck))(N:VR E (.ptr i 0) v)(J:∀e∈es,e.2.2<a)(y:a<=last):
  ∃r,(match r with|none=>∀e∈es,seen.contains e.2.2=true|some e=>e∈es/\seen.contains e.2.2=false)/\bN P w0 S0 E (RK L i j a seen ck r) (LV r) w (Instr.next v false t):=by
 obtain⟨c,s,rfl⟩:=N;obtain⟨c',q,B,G,I,d,h4,rfl⟩:=p.blk i _ A;rw[s]at B;cases B;obtain⟨S,rs,g1,M,g3⟩:=p.blk j _ R;rw[h4]at g1;cases g1;have z:c.blk<w.heap.size:=(afJ.1 G).1;have k:∀x∈rs.toList,x.born<a:=λx Q=>by
  obtain⟨e,n,_,_,h⟩:=g3.mem1 Q
  grind
 rw[I];rcases run_next_at (P:=P) w t c.blk d.blk a last ⟨seen⟩ rs ck G M k y with⟨O,g⟩|⟨f,D,o,C,g⟩;refine⟨none,λe n=>?_,.same p g (by simp[LV,VR,VRL])⟩;obtain⟨f,D,F⟩:=g3.mem2 n;have K:leftOf rs ⟨seen⟩=#[]:=Array.eq_empty_of_size_eq_zero O;unfold leftOf at K;simp_all;have l:f∈rs.toList/\seen.contains f.born=false:=by simp only[leftOf,Array.toList_filter,afB]at D;simp_all
 obtain⟨e,n,U,T,H⟩:=g3.mem1 l.1;have u:Rel w0 S0 E L o:=by rcases C with rfl|rfl;omega;exact p.grown ⟨λ_ _=>rfl,ae0 _,rfl,rfl,rfl⟩
 have m:c.blk<o.heap.size:=by rcases C with rfl|rfl<;>exact z
 have turn:=u.turn (w':={o with heap:=o.heap.setIfInBounds c.blk (.mapIter (some d.blk) a ((⟨seen⟩:Array Nat).push f.born) ck)}) (k':=.miter (some j) a (seen++[f.born]) ck) A rfl s ah4 (λb F=>by simp[agV,Ne.symm F]) rfl rfl rfl
  ⟨c,some d.blk,s,by simp[m],I,d,h4,rfl⟩ (λ_ _ e=>by cases e)
 refine⟨some e,⟨n,by rw[H];exact l.2⟩,E,.tuple #[.bool true,f.key,f.val],_,g,.refl E,?_,?_⟩;simp only[LV,VR,VRL]
 grind
 simp only[RK,H];exact turn
def LOp.isNext:LOp->Bool
 |.mnext _=>true
 |_=>false
theorem Vp{own:Nat}{s d:TypeId}{x:Opd}{a:LOp}(h:zb P own s d x=some a):a.isNext=false:=by
 unfold zb at h
 repeat' split at h
 all_goals (first|(cases h;rfl)|cases h)
theorem XK{op:BinOp}{t:TypeId}{x y:Operand}{a:LOp}(h:Jz P op t x y=some a):a.isNext=false:=by
 unfold Jz at h
 repeat' split at h
 all_goals (first|(cases h;rfl)|cases h)
theorem Q6{own:Nat}{b:Builtin}{ts:List TypeId}{xs:List Opd}{a:LOp}(h:cw P own b ts xs=some a):a.isNext=false:=by
 unfold cw at h
 repeat' split at h
 all_goals (first|(cases h;rfl)|cases h|(simp only[afr]at h;obtain⟨_,_,rfl⟩:=h;rfl))
theorem Vo{own:Nat}{op:Op}{y:Opd}(h:kA P own op=some (.mnext y)):∃x,op=.next x false/\aZ x=some y:=by
 cases op
 case next x isS =>
  simp only[kA]at h;split at h
  .simp_all
  simp_all
 case makeMap t r =>
  cases r with
  |some x=>simp[kA]at h
  | none =>
    simp only[kA]at h
    grind
 all_goals (exfalso;simp only[kA]at h;try (cases h;done))
 case binOp=>have:=XK h;cases this
 case convert x=>simp only[agM]at h;obtain⟨_,_,h⟩:=h;have:=Vp h;cases this
 case call c =>
  split at h<;>try cases h
  split at h<;>try cases h
  .simp_all
  .have:=Q6 h;cases this
 all_goals
  repeat' split at h
  all_goals (first|cases h|(simp only[afr]at h;obtain⟨_,_,h⟩:=h;cases h))
theorem W7{own:Nat->Nat->Nat}{Q:Exit->Tm->List Blk->Prop}{d t i j b last ck:Nat}{rest:List SOp}{f:List Bool}{seen:List Nat}{es:List (AV×AV×Nat)}(n:(okS rest&&(gds rest).isEmpty)=true)(ht:ar T t=some (.ptr i 0))(Z:L[i]?=some (.miter (some j) b seen last))(hj:L[j]?=some (.map es ck))(m:∀e∈es,e.2.2<b)(J:b<=last)(h0:(∀e∈es,seen.contains e.2.2=true)->SL P rest (QX f (Q .normal)) ((d,.tup [.bool false])::T) L)(h1:∀e∈es,seen.contains e.2.2=false->SL P rest (QX f (Q .normal)) ((d,.tup [.bool true,e.1,e.2.1])::T) (L.set i (.miter (some j) b (seen++[e.2.2]) ck))):
  AW P N own (.sreg (.op ⟨some d,.mnext (.tmp t),none⟩::rest) f) Q T L:=λc hc ro ai w0 S0 E a w z=>by
 obtain⟨id,os,rfl,g⟩:=JE hc;rw[ae7]at n;refine wpIn_region ?_;generalize List.range os.size=is at g⊢;cases is with
 |nil=>simp[bt,SOp.flatL,SOp.flat]at g
 | cons i0 is =>
   simp only[SOp.flatL,SOp.flat,afI,afH,bt]at g;split at g<;>try cases g
   rename_i lo S e1 e2;obtain⟨o,ho,ab,h,hd,hg⟩:=iO e1;rcases hg with⟨g1,_⟩|⟨_,_,_,_,_,_,g4⟩
   .simp only[wpOpsIn,ho];rw[if_pos (by simp[Region.wanted,g1])];have p:kA P (own id i0) o.op=some (.mnext (.tmp t)):=by
     rcases hq:kA P (own id i0) o.op with _|x
     .simp_all
     simp_all
    obtain⟨x,Y,F⟩:=Vo p;obtain⟨hR,X,R,K⟩:=z;have A:=ah F (show evX T (.tmp t)=some (.ptr i 0)from ht) X;obtain⟨r,hr,E',v,w',W,l,D,B⟩:=Ra (P:=P) (t:=o.type) hR Z hj A m J;have C:∀c,o.op≠.defer c:=λc e=>by rw[Y]at e;cases e
    refine⟨λ_ _=>trivial,?_⟩;rw[Oper.semAt_plain _ _ _ C];have I:(execOp a.eval o).run P w=.ok (.value v) w':=by obtain⟨od,al,G,U,s,u⟩:=o;subst Y;show(do pure (Next.value (<- Instr.next (a.eval x) false G)):Sem Next).run P w=_;simp[*]
    rw[I,Oper.uponIn_value];have q:St w0 S0 N E' (bC (some d) (LV r) T) (RK L i j b seen ck r) (a.put o.dst v) w':=⟨B,by rw[h];exact(X.mono l).putT (λk O=>by rw[R];exact hd k (by rw[h];exact O)) D,by rw[PJ];exact R,by rw[Jw];exact K⟩;have y:Fr (gds rest) (bC (some d) (LV r) T):=λk O=>by simp_all
    have H:SL P rest (QX f (Q .normal)) (bC (some d) (LV r) T) (RK L i j b seen ck r):=by
     cases r with
     |none=>exact h0 hr
     |some e=>exact h1 e hr.1 hr.2
    refine Em rest n.1 e2 q y H λM T' L' a' ad q2 V q4=>⟨w0,S0,M,sel f T',L',.refl _ _,l.trans q2,V.2,q4.weak (λt v A=>G2 V.1 A) rfl λ_ _ e=>.inr e⟩
   simp_all
end
set_option maxHeartbeats 8000000
set_option maxRecDepth 100000
theorem ads{ws:List WtE}{p:WtE}{ck:Nat}{seen:List Nat}(c:(ws.map (·.2.2)).Nodup)(d:p∈ws):mat (ws.map wtA) ck (seen++[p.2.2]) ck=some (wtA p):=by
 have key:∀ws:List WtE,(ws.map (·.2.2)).Nodup->p∈ws->(ws.map wtA).find? (λe=>Nat.beq e.2.2 p.2.2)=some (wtA p):=by
  intro ws;induction ws with
  |nil=>intro _ h;cases h
  | cons x ws ih =>
    intro a h;rw[afe,afY]at a;rcases afp.1 h with h|h
    .subst h;simp[wtA]
    .have hne:x.2.2≠p.2.2:=λe=>a.1 (ae1.2 ⟨p,h,e.symm⟩)
     have b:Nat.beq x.2.2 p.2.2=false:=by
      cases hh:Nat.beq x.2.2 p.2.2 with
      |false=>rfl
      |true=>exact absurd (ahJ hh) hne
     rw[afe,af5];simp only[wtA]at ih⊢;rw[b];exact ih a.2 h
 unfold mat;simp only[List.getLast?_append,List.getLast?_singleton,Option.some_or,if_true];exact key ws c d
structure O4(ws:List WtE)(n ck:Nat):Prop where
 keys:(ws.map (·.1)).Nodup
 born:(ws.map (·.2.2)).Nodup
 lt:∀e∈ws,e.2.2<ck
 rng:∀e∈ws,0<=e.1/\e.1<(n:Int)
theorem O4.erase{ws:List WtE}{n ck:Nat}(h:O4 ws n ck)(j:Nat):O4 (ws.eraseIdx j) n ck:=by have a:=ahT ws j;exact⟨h.keys.sublist (a.map _),h.born.sublist (a.map _),λe b=>h.lt e (a.subset b),λe b=>h.rng e (a.subset b)⟩
theorem RM{α β:Type}(f:α->β):∀(l:List α) (k:Nat),(l.map f).eraseIdx k=(l.eraseIdx k).map f
 |[],_=>rfl
 |a::l,0=>rfl
 |a::l,k+1=>by rw[afe,ahn,ahn,afe,RM f l k]
theorem Pr:∀{W:List WtE}{j:Nat}{p:WtE},(W.map (·.1)).Nodup->j<W.length->W.getD j default=p->∀i:Int,(W.eraseIdx j).find? (λe=>decide (e.1=i))=if p.1=i then none else W.find? (λe=>decide (e.1=i))
 | e::W,0,p,hk,_,hp,i=>by
   have:e=p:=hp;subst this;rw[afe,afY]at hk;rw[List.eraseIdx_cons_zero];by_cases c:e.1=i
   .rw[if_pos c];exact af7.2 λx d=>by simp only[decide_eq_true_eq];intro q;exact hk.1 (ae1.2 ⟨x,d,by rw[q,c]⟩)
   .rw[if_neg c,af5,decide_eq_false c]
 | e::W,j+1,p,hk,hj,hp,i=>by
   rw[afe,afY]at hk;have a:j<W.length:=(by simpa using hj);have b:W.getD j default=p:=(by simpa using hp);have f:p∈W:=(by rw[<- b];simp[a]);rw[ahn,af5,Pr hk.2 a b i,af5];by_cases c:e.1=i
   .have:p.1≠i:=λq=>hk.1 (ae1.2 ⟨p,f,by rw[q,c]⟩)
    rw[decide_eq_true c];simp only[if_neg this]
   .rw[decide_eq_false c]
theorem VX{W:List WtE}{D:List (List UInt8)}{j k:Nat}{s:List UInt8}{b:Nat}(a:(W.map (·.1)).Nodup)(f:j<W.length)(d:W.getD j default=((k:Int),s,b))(l:k<D.length)(i:Nat):s8 (D.set k s) (W.eraseIdx j) i=s8 D W i:=by
 unfold s8;rw[Pr a f d];by_cases c:k=i;subst c;have g:((k:Int),s,b)∈W:=by rw[<- d];simp[f]
 have m:W.find? (λe=>decide (e.1=(k:Int)))=some ((k:Int),s,b):=by
  cases h:W.find? (λe=>decide (e.1=(k:Int)))with
  |none=>exact absurd (af7.1 h _ g) ah4
  |some e=>rw[bR a (agr h) g (by simpa using ags h)]
 rw[if_pos rfl,m];simp[l];rw[if_neg (by simp only;omega)];cases W.find? (λe=>decide (e.1=(i:Int)))with
 |none=>simp only[afh];rw[ae4 c]
 |some e=>rfl
section
variable {L:List Blk}{dp lp wp ck:Nat}{cp:Option Nat}{lim:Int}{x y z:AV}{ls:List (List UInt8)}{ws:List WtE}
theorem aab(hd:L[dp]?=some (.cells (gl lp wp ls.length cp lim false 0 x y z)))(Y:L[lp]?=some (.cells (ls.map AV.str)))(hw:L[wp]?=some (.map (ws.map wtA) ck))(v:O4 ws ls.length ck)(n1:dp≠lp)(n2:dp≠wp)(n3:lp≠wp)(ap:ls.length<=8192){K:aeX}(h:∀M,M[lp]?=some (.cells (((List.range ls.length).map (s8 ls ws)).map AV.str))->M[wp]?=some (.map [] ck)->(∀j,j≠lp->j≠wp->j<L.length->M[j]?=L[j]?)->L.length<=M.length->K (.int .i64 0) M):aeW 90 [.ptr dp 0] L K:=by
 obtain⟨N,C⟩:∃e:Int,(if(0:Int)<0\/(ls.length:Int)<=0 then(2:Int)else 0)=e:=⟨_,rfl⟩;have kk1:Hid (∀{K:aeX},K (.int .i64 N) L->aeW 81 [.ptr dp 0,.int .i64 0] L K):=@hid _ (λ{K} q=>Qu hd (by rw[if_neg (by decide),C];exact q));have kk2:Hid (∀{K:aeX},K (.bool false) L->aeW 119 [.ptr dp 0] L K):=@hid _ (λ{K} q=>aae hd q);have g1:decide (N=2)=true\/decide (N=0)=true:=by rw[<- C];split<;>simp
 have g2:(!decide (N=0) && !decide (N=2))=false:=by rcases g1 with g|g<;>simp[g]
 replace h:=hid h;replace v:=hid v;clear C g1;have u:=(aeY.1 hd).1;have l:=(aeY.1 Y).1;have f:=(aeY.1 hw).1;have ad:=hid hw;have ab:=hid Y;have al:=hid hd;replace u:=hid u;replace l:=hid l;replace f:=hid f;refine aeV GN ?_;clear kk1 kk2 hd Y hw;refine ao (λm T' L'=>∃(W:List WtE) (D:List (List UInt8)) (seen:List Nat),m=W.length/\Hid (O4 W ls.length ck/\D.length=ls.length/\(∀i,i<ls.length->s8 D W i=s8 ls ws i)/\(∀e∈W,seen.contains e.2.2=false)/\L'.length=L.length+1/\L'[L.length]?=some (.miter (some wp) ck seen ck)/\L'[wp]?=some (.map (W.map wtA) ck)/\L'[lp]?=some (.cells (D.map AV.str))/\∀j,j≠lp->j≠wp->j<L.length->L'[j]?=L[j]?)/\T'=[(23,.ptr L.length 0),(0,.ptr dp 0)]) ah7 ⟨ws,ls,[],rfl,hid ⟨v.o,rfl,λi _=>rfl,ah4,ah4,ah4,by rw[ae3 f.o];exact ad.o,by rw[ae3 l.o];exact ab.o,λj _ _ G=>ae3 G⟩,rfl⟩ ?_;rintro _ _ M ⟨W,D,seen,rfl,X,rfl⟩;obtain⟨s,U,I,Q,T,w6,J,V,H⟩:=X.o;refine lF ?_;refine W7 (i:=L.length) (j:=wp) (es:=W.map wtA) ah5 rfl w6 J (λe E=>?_) (ae0 _) (λw=>?_) (λe E hs=>?_);obtain⟨p,t,rfl⟩:=ae1.1 E;exact s.lt p t;have hW:W=[]:=by
  cases W with
  |nil=>rfl
  | cons e W =>
    have a:=w (wtA e) (ae1.2 ⟨e,ah4,rfl⟩);have b:=Q e ah4;change seen.contains e.2.2=true at a;rw[a]at b;cases b
 subst hW;have hD:D=(List.range ls.length).map (s8 ls ws):=by apply af1;intro i;rcases aft i ls.length with q|q;rw[afS,List.getElem?_range q,afn ah3];have:=I i q;simp only[s8,List.find?_nil]at this;rw[<- show D.getD i []=D[i]from by simp[show i<D.length by omega],this];rfl;rw[afV ah3,afV (by simp;omega)]
 have h':=hid (h.o M (by rw[<- hD];exact V) J H ah3);clear X s U I Q T w6 J V H w hD h v;refine aib ?_;exact ag h'.o;obtain⟨p,t,rfl⟩:=ae1.1 E;obtain⟨q1,q2⟩:=s.rng p t;have O:M[dp]?=some (.cells (gl lp wp ls.length cp lim false 0 x y z)):=by rw[H dp n1 n2 u.o];exact al.o
 obtain⟨F,c⟩:=aeS (M.set L.length (.miter (some wp) ck (seen++[p.2.2]) ck));have ai:=hid (Nat.ne_of_lt u.o);have S:=hid (Nat.ne_of_lt l.o);have A:=hid (Nat.ne_of_lt f.o);have a1:F[L.length]?=some (.miter (some wp) ck (seen++[p.2.2]) ck):=by rw[<- c,afy ah3]
 have a2:F[wp]?=some (.map (W.map wtA) ck):=by rw[<- c,ae4 (Ne.symm A.o)];exact J
 have a3:F[lp]?=some (.cells (D.map AV.str)):=by rw[<- c,ae4 (Ne.symm S.o)];exact V
 have a4:F[dp]?=some (.cells (gl lp wp ls.length cp lim false 0 x y z)):=by rw[<- c,ae4 (Ne.symm ai.o)];exact O
 have b2:∀b:Blk,(F.set lp b)[wp]?=some (.map (W.map wtA) ck):=λb=>by rw[ae4 n3];exact a2
 have b4:∀b:Blk,(F.set lp b)[dp]?=some (.cells (gl lp wp ls.length cp lim false 0 x y z)):=λb=>by rw[ae4 (Ne.symm n1)];exact a4
 have P:=ads (ck:=ck) (seen:=seen) s.born t;have hf:=O5 W p.1 0;have an:aU .int (.int .i64 p.1)=true:=rfl;obtain⟨j,G,r⟩:∃j,(W.findIdx? λe=>decide (e.1=p.1))=some j/\W.getD j default=p:=by rcases R9 W p.1 with⟨a,b⟩|⟨n,a,b⟩;exact absurd (af7.1 b p t) ah4;refine⟨n,a,?_⟩;have R:=agr b;have h2:(W.getD n default).1=p.1:=(by simpa using ags b);exact bR s.keys R t h2
 rw[G]at hf;simp only[afi,agm,r]at hf;obtain⟨k,hk⟩:∃k:Nat,p.1=k:=⟨p.1.toNat,ah3⟩;obtain⟨pi,ps,Z⟩:=p;simp only at hk;subst hk;simp only[wtA]at hf P a1 c⊢;rw[c];have c1:k<ls.length:=by simp only at q2;omega
 have c2:k+1<=D.length:=ah3;replace c:=hid c;replace s:=hid s;replace U:=hid U;replace I:=hid I;replace Q:=hid Q;replace T:=hid T;replace H:=hid H;replace G:=hid G;replace r:=hid r;replace t:=hid t;clear E hs X w6 J V q1 q2 O;refine aib ?_;have B:j<W.length:=by have:=G.o;rw[aho]at this;exact this.1
 have d:F.length=L.length+1:=by rw[<- c.o,List.length_set];exact T.o
 refine ah8 (show(W.eraseIdx j).length<W.length by rw[List.length_eraseIdx_of_lt B];omega) (CutS (b:=by simp[d])) ⟨W.eraseIdx j,D.set k ps,seen++[Z],rfl,hid ⟨s.o.erase j,by rw[List.length_set];exact U.o,λi hi=>by rw[VX s.o.keys B r.o ah3];exact I.o i hi,λe E=>?_,by simp[d],?_,?_,?_,λi i1 i2 i3=>?_⟩,rfl⟩;have hm:=(ahT W j).subset E;have R:=Q.o e hm;have h2:e.2.2≠Z:=λq=>by have h3:=bR s.o.born hm t.o (show e.2.2=((k:Int),ps,Z).2.2 from q);have h4:=Pr s.o.keys B r.o (k:Int);rw[if_pos rfl]at h4;exact absurd (af7.1 h4 e E) (by rw[h3];simp)
 rw[Bool.eq_false_iff]at R⊢;simp only[ne_eq,ahL,ae2,afl,not_or]at R⊢;exact⟨R,h2⟩;rw[ae4 A.o,ae4 S.o];exact a1;rw[afy (by simp[d];have:=A.o;have:=f.o;omega),RM];rw[ae4 (Ne.symm n3),afy (by rw[d];have:=l.o;omega),List.map_set,List.set_eq_take_append_cons_drop,if_pos (by simp;omega)];rw[ae4 (Ne.symm i2),ae4 (Ne.symm i1),<- c.o,ae4 ah3];exact H.o i i1 i2 i3
end
set_option maxHeartbeats 8000000
set_option maxRecDepth 100000
abbrev He:List UInt8:=List.replicate 128 0
section
variable {L:List Blk}{dp lp wp ck:Nat}{cp:Option Nat}{lim left:Int}{off:Bool}{x y z:AV}{ls:List (List UInt8)}{ws:List WtE}
theorem adE(hd:L[dp]?=some (.cells (gl lp wp ls.length cp lim off left x y z)))(w:L[lp]?=some (.cells (ls.map AV.str)))(u:L[wp]?=some (.map [] ck))(H:dp≠lp)(R:dp≠wp)(n3:lp≠wp)(N:ls.length<=8192){K:aeX}(h:∀M,M[lp]?=some (.cells ((List.replicate ls.length He).map AV.str))->(∀j,j≠lp->j<L.length->M[j]?=L[j]?)->L.length<=M.length->K (.tup []) M):aeW 20 [.ptr dp 0,.str []] L K:=by
 replace h:=hid h;have f:=hid (aeY.1 hd).1;have q:=hid (aeY.1 w).1;have A:=hid (aeY.1 u).1;have D:=hid u;have B:=hid w;have n:=hid hd;have U:min 0 128=0:=rfl;have S:u8s []=[]:=rfl;have z3:Q9 (.int .u8 0)=true:=rfl;refine aeV JZ ?_;clear hd w u;refine ao (λm T' L'=>∃(k:Nat),m=ls.length-k/\k<=ls.length/\Hid (L.length<=L'.length/\L'[lp]?=some (.cells ((List.replicate k He++ls.drop k).map AV.str))/\∀j,j≠lp->j<L.length->L'[j]?=L[j]?)/\T'=[(13,.int .i64 (k:Int)),(12,.int .i64 ls.length),(0,.ptr dp 0),(1,.str [])]) ah7 ⟨0,rfl,ae5 _,hid ⟨ae0 _,B.o,λ_ _ _=>rfl⟩,rfl⟩ ?_;rintro _ _ M ⟨k,rfl,Q,s,rfl⟩;by_cases l:k<ls.length;have g1:(k:Int)<(ls.length:Int):=ah3;have W:=aeU k ah3;obtain⟨d,g,a⟩:=s.o;have T:∀X:List Blk,(M++X)[dp]?=some (.cells (gl lp wp ls.length cp lim off left x y z)):=λX=>by rw[ae3 (by have:=f.o;omega),a dp H f.o];exact n.o
 have P:∀X:List Blk,(M++X)[lp]?=some (.cells ((List.replicate k He++ls.drop k).map AV.str)):=λX=>by rw[ae3 (by have:=q.o;omega)];exact g
 obtain⟨C,t⟩:=aeS ((List.replicate k He++ls.drop k).map AV.str);rw[t]at P;have O:C.length=ls.length:=by rw[<- t];simp;omega
 have g3:(0:Int)<=(k:Int):=ah3;have g4:k+1<=ls.length:=l;have E:Hid (C.take k++AV.str He::C.drop (k+1)=(List.replicate (k+1) He++ls.drop (k+1)).map AV.str):=hid (by have G:((List.replicate k He).map AV.str).length=k:=ah4;rw[<- t,afk,List.take_left' G,<- agE,List.drop_left' G,<- ahm,agE,List.replicate_succ',afk,afk];simp)
 have e:=hid d;have v:=hid a;have F:=hid (show lp<M.length by have:=q.o;omega);clear s d g a t;refine wk ?_;refine ah8 ah3 (CutL (b:=by simp;have:=e.o;omega)) ⟨k+1,rfl,l,hid ⟨by simp;have:=e.o;omega,?_,λj d g=>?_⟩,rfl⟩;rw[afy (by simp;have:=F.o;omega),<- E.o];rfl;rw[ae4 (Ne.symm d),ae3 (by have:=e.o;omega)];exact v.o j d g;have r:k=ls.length:=ah3;have g1:¬(k:Int)<(ls.length:Int):=ah3;obtain⟨d,g,a⟩:=s.o;have p:M[wp]?=some (.map [] ck):=by rw[a wp (Ne.symm n3) A.o];exact D.o
 have J:M[dp]?=some (.cells (gl lp wp ls.length cp lim off left x y z)):=by rw[a dp H f.o];exact n.o
 have V:M.set wp (.map [] ck)=M:=by apply af1;intro i;by_cases c:i=wp;rw[c,afy (aeY.1 p).1,p];rw[ae4 (Ne.symm c)]
 have I:=hid (h.o M (by rw[g,r];simp) a d);clear s d g a r l;refine wk ?_;exact Mx rfl trivial (ag I.o)
theorem adD{n:Int}(l:0<=n)(p:n<=8192){K:aeX}(h:∀M dp lp wp,M[dp]?=some (.cells (gl lp wp n.toNat (some n.toNat) n false 0 (.int .u64 0) (.int .i64 0) (.int .i64 0)))->M[lp]?=some (.cells ((List.replicate n.toNat He).map AV.str))->M[wp]?=some (.map [] 0)->(∀j,j<L.length->M[j]?=L[j]?)->L.length<=M.length->dp≠lp->dp≠wp->lp≠wp->L.length<=dp->L.length<=lp->L.length<=wp->K (.ptr dp 0) M):
  aeW 6 [.int .i64 n] L K:=by
 replace h:=hid h;obtain⟨m,rfl⟩:∃m:Nat,n=m:=⟨n.toNat,ah3⟩;have g1:¬(8192:Int)<(m:Int):=ah3;have k:(if(m:Int)>0 then(m:Int)else 0)=(m:Int):=by split<;>omega
 refine aeV Rj ?_;have a:Hid (di [AV.str []] m=(List.replicate m ([]:List UInt8)).map AV.str):=hid (by rw[List.map_replicate];clear h g1 k l p;induction m with|zero=>rfl|succ n ih=>rw[di,ih];rfl);rw[a.o];refine adE (ls:=List.replicate m []) (dp:=L.length+2) (lp:=L.length) (wp:=L.length+1) (ck:=0) (cp:=some m) (lim:=m) (left:=0) (off:=false) (x:=.int .u64 0) (y:=.int .i64 0) (z:=.int .i64 0) (by rw[aff ah3];simp) (by rw[aff ah3];simp) (by rw[aff ah3];simp) ah3 ah3 ah3 (by simp;omega) (λM f b d=>?_);have c:M[L.length+2]?=some (.cells (gl L.length (L.length+1) m (some m) m false 0 (.int .u64 0) (.int .i64 0) (.int .i64 0))):=by rw[b _ ah3 ah4,aff ah3];simp
 have e:M[L.length+1]?=some (.map [] 0):=by rw[b _ ah3 ah4,aff ah3];simp
 have g:M[L.length]?=some (.cells ((List.replicate m He).map AV.str)):=by rw[f];simp
 have i:=hid (h.o M (L.length+2) L.length (L.length+1) c g e (λj q=>by rw[b j ah3 (by simp;omega),ae3 q]) (by simp at d;omega) ah3 ah3 ah3 ah3 ah3 ah3);clear h f b d c e g a;refine wk ?_;exact ag i.o
end
set_option maxHeartbeats 8000000
set_option maxRecDepth 100000
section
variable {L:List Blk}{dp lp wp ck:Nat}{cp:Option Nat}{lim left:Int}{off:Bool}{x y z:AV}{ls:List (List UInt8)}
theorem ab8(hd:L[dp]?=some (.cells (gl lp wp ls.length cp lim off left x y z)))(n:L[lp]?=some (.cells (ls.map AV.str)))(e:L[wp]?=some (.map [] ck))(p:ls.length<=8192){k t a:Int}{K:aeX}(h:∀b,K (.tup []) (L++[b])):aeW 59 [.ptr dp 0,.agg [.int .u64 k,.int .i64 t,.int .i64 a]] L K:=by
 have s:∀X:List Blk,(L++X)[dp]?=some (.cells (gl lp wp ls.length cp lim off left x y z)):=λX=>aeT hd
 have f:∀X:List Blk,(L++X)[wp]?=some (.map [] ck):=λX=>aeT e
 have r:∀X:List Blk,(L++X).set wp (.map [] ck)=L++X:=λX=>by apply af1;intro i;by_cases c:i=wp;rw[c,afy (aeY.1 (f X)).1,f];rw[ae4 (Ne.symm c)]
 have l:=hid (h (.cells [.int .u64 k,.int .i64 t,.int .i64 a]));clear h hd n e;refine aeV Hk ?_;refine ao (λm T' L'=>∃(j:Nat),m=ls.length-j/\j<=ls.length/\T'=[(14,.int .i64 (j:Int)),(13,.int .i64 ls.length),(4,.int .i64 0),(3,.ptr L.length 0),(0,.ptr dp 0),(1,.agg [.int .u64 k,.int .i64 t,.int .i64 a])]/\L++[.cells [.int .u64 k,.int .i64 t,.int .i64 a]]=L') ah7 ⟨0,rfl,ae5 _,rfl,rfl⟩ ?_;rintro _ _ _ ⟨j,rfl,v,rfl,rfl⟩;by_cases d:j<ls.length;have g1:(j:Int)<(ls.length:Int):=ah3;have u:=aeU j ah3;have q:aU .int (.int .i64 (j:Int))=true:=rfl;have g:bH (.int .i64 (j:Int)) [] 0=some none:=rfl;refine wk ?_;exact ah8 ah3 ah6 ⟨j+1,rfl,d,rfl,rfl⟩;have g1:¬(j:Int)<(ls.length:Int):=ah3;clear d;refine wk ?_;exact Mx rfl trivial (ag l.o)
theorem ael(hd:L[dp]?=some (.cells (gl lp wp ls.length cp lim off left x y z))){K:aeX}(h:K (.tup []) (L.set dp (.cells (gl lp wp ls.length cp lim false 0 x y z)))):aeW 60 [.ptr dp 0] L K:=by
 have d:∀b:Blk,(L.set dp b)[dp]?=some b:=λb=>afy (aeY.1 hd).1
 have a:∀b c:Blk,(L.set dp b).set dp c=L.set dp c:=λb c=>ahc ..
 replace h:=hid h;refine aeV Mo ?_;exact Mx rfl trivial (ag h.o)
theorem aaf(hd:L[dp]?=some (.cells (gl lp wp ls.length cp lim false left x y z)))(f:L[lp]?=some (.cells (ls.map AV.str)))(e:L[wp]?=some (.map [] ck))(d:ls.length<=8192){k t a:Int}{K:aeX}(h:∀M,M[dp]?=some (.cells (gl lp wp ls.length cp lim false 0 x y z))->(∀j,j≠dp->j<L.length->M[j]?=L[j]?)->L.length<=M.length->K (.tup []) M):aeW 24 [.ptr dp 0,.agg [.int .u64 k,.int .i64 t,.int .i64 a]] L K:=by
 have a0:=(aeY.1 hd).1;have g:∀X:List Blk,(L++X)[dp]?=some (.cells (gl lp wp ls.length cp lim false left x y z)):=λX=>by rw[ae3 a0];exact hd
 have kk1:Hid (∀{b:Blk}{K:aeX},(∀c,K (.tup []) (L++[b,c]))->aeW 59 [.ptr dp 0,.agg [.int .u64 k,.int .i64 t,.int .i64 a]] (L++[b]) K):=@hid _ (λ{b K} q=>ab8 (L:=L++[b]) (g _) (aeT f) (aeT e) d (λc=>by rw[afa];exact q c));have kk2:Hid (∀{X:List Blk}{K:aeX},K (.tup []) ((L++X).set dp (.cells (gl lp wp ls.length cp lim false 0 x y z)))->aeW 60 [.ptr dp 0] (L++X) K):=@hid _ (λ{X K} q=>ael (g X) q);have i:Hid (∀X,K (.tup []) ((L++X).set dp (.cells (gl lp wp ls.length cp lim false 0 x y z)))):=hid (λX=>h _ (afy (by simp;omega)) (λj l m=>by rw[ae4 (Ne.symm l),ae3 m]) ah4);clear f e h a0;refine aeV GP ?_;intro c;refine wk ?_;exact Mx rfl trivial (ag (i.o _))
end
theorem mD:∀(k n:Nat),n<256^k->bY (eG n k)=n
 |0,n,h=>by simp at h;subst h;rfl
 |k+1,n,h=>by rw[eG,Qh,mD k (n/256) (by rw[Nat.pow_succ]at h;omega)];have:(b8 n).toNat=n%256:=(by unfold b8;simp);omega
section
variable (sum:List UInt8->Nat)
def Hg(s:List UInt8):List UInt8:=s++List.replicate (124-s.length) 0
def oG(s:List UInt8):List UInt8:=eG (sum (Hg s)) 4++Hg s
def D8(s:List UInt8):Option (List UInt8):=if bY (s.take 4)=sum (s.drop 4)then some (s.drop 4)else none
variable {sum}
theorem Zq{s:List UInt8}(h:s.length<=124):(Hg s).length=124:=by simp[Hg];omega
theorem Ru{s:List UInt8}(h:s.length<=124):(oG sum s).length=128:=by simp[oG,fp,Zq h]
theorem PV(c:∀s,sum s<2^32)(s:List UInt8):D8 sum (oG sum s)=some (Hg s):=by
 have a:(oG sum s).take 4=eG (sum (Hg s)) 4:=by unfold oG;rw[List.take_append_of_le_length (by rw[fp];omega),afu (by rw[fp];omega)]
 have b:(oG sum s).drop 4=Hg s:=by unfold oG;rw[List.drop_left' (fp _ 4)]
 unfold D8;rw[a,b,mD 4 _ (c _),if_pos rfl]
structure Cel where
 gen:Nat
 seq:Nat
 part:Nat
 parts:Nat
 data:List UInt8
def OS(c:Cel):List UInt8:=67::(eG c.gen 4++(eG c.seq 4++(eG c.part 2++(eG c.parts 2++(eG c.data.length 1++c.data)))))
variable (sum)
def fF(c:Cel):List UInt8:=oG sum (OS c)
def rdC(s:List UInt8):Option Cel:=match D8 sum s with
 |none=>none
 | some r=>if r.getD 0 0≠67 then none else
   if 110<(s.getD 17 0).toNat\/bY ((s.drop 5).take 4)=0\/bY ((s.drop 15).take 2)<=bY ((s.drop 13).take 2)\/(s.drop (18+(s.getD 17 0).toNat)).all (· == 0)=false then none else
   if(bY ((s.drop 13).take 2)+1≠bY ((s.drop 15).take 2)/\(s.getD 17 0).toNat<110)\/(bY ((s.drop 13).take 2)+1=bY ((s.drop 15).take 2)/\(s.getD 17 0).toNat=0/\1<bY ((s.drop 15).take 2))then none else
   some ⟨bY ((s.drop 5).take 4),bY ((s.drop 9).take 4),bY ((s.drop 13).take 2),bY ((s.drop 15).take 2),(s.drop 18).take (s.getD 17 0).toNat⟩
structure W6(c:Cel):Prop where
 gen:1<=c.gen/\c.gen<2^32
 seq:c.seq<2^32
 part:c.part<c.parts/\c.parts<2^16
 len:c.data.length<=110
 full:c.part+1<c.parts->c.data.length=110
 some:1<c.parts->c.data≠[]
variable {sum}
theorem aao(c:Cel):(OS c).length=14+c.data.length:=by simp[OS,fp];omega
theorem Ws(i:∀s,sum s<2^32){c:Cel}(h:W6 c):rdC sum (fF sum c)=some c:=by
 obtain⟨⟨g1,m⟩,q,⟨x,p⟩,l,f,n⟩:=h;have e:fF sum c=eG (sum (Hg (OS c))) 4++(67::(eG c.gen 4++(eG c.seq 4++(eG c.part 2++(eG c.parts 2++(eG c.data.length 1++(c.data++List.replicate (124-(OS c).length) 0))))))):=by simp only[fF,oG,Hg,OS,afI,afa]
 have o:D8 sum (fF sum c)=some (Hg (OS c)):=PV i _;have u:(Hg (OS c)).getD 0 0=67:=rfl;have v:bY (((fF sum c).drop 5).take 4)=c.gen:=by rw[e];exact mD 4 _ m
 have r:bY (((fF sum c).drop 9).take 4)=c.seq:=by rw[e];exact mD 4 _ q
 have t:bY (((fF sum c).drop 13).take 2)=c.part:=by rw[e];exact mD 2 _ ah3
 have w:bY (((fF sum c).drop 15).take 2)=c.parts:=by rw[e];exact mD 2 _ p
 have j:((fF sum c).getD 17 0).toNat=c.data.length:=by rw[e];show(b8 c.data.length).toNat=_;unfold b8;simp;omega
 have g:(fF sum c).drop 18=c.data++List.replicate (124-(OS c).length) 0:=by rw[e];rfl
 have k:(fF sum c).drop (18+c.data.length)=List.replicate (124-(OS c).length) 0:=by rw[<- agE,g,List.drop_left]
 unfold rdC;rw[o];simp only[u,v,r,t,w,j,g,k];rw[if_neg ah4,if_neg,if_neg,List.take_left];rintro(⟨a,b⟩|⟨a,b,d⟩);have:=f ah3;omega;exact n d (afK.1 b);rintro(a|a|a|a);omega;omega;omega;simp at a
def hdB(gen half:Nat):List UInt8:=72::(eG gen 4++eG half 1)
variable (sum)
def yV(gen half:Nat):List UInt8:=oG sum (hdB gen half)
def rdH(s:List UInt8):Option (Nat×Nat):=match D8 sum s with
 |none=>none
 |some r=>if r.getD 0 0≠72\/bY ((s.drop 5).take 4)=0\/1<(s.getD 9 0).toNat\/(s.drop 10).all (· == 0)=false then none else some (bY ((s.drop 5).take 4),(s.getD 9 0).toNat)
variable {sum}
theorem Sh(b:∀s,sum s<2^32){gen half:Nat}(g:1<=gen/\gen<2^32)(h:half<=1):rdH sum (yV sum gen half)=some (gen,half):=by
 have e:yV sum gen half=eG (sum (Hg (hdB gen half))) 4++(72::(eG gen 4++(eG half 1++List.replicate (124-(hdB gen half).length) 0))):=by simp only[yV,oG,Hg,hdB,afI,afa]
 have o:D8 sum (yV sum gen half)=some (Hg (hdB gen half)):=PV b _;have c:(Hg (hdB gen half)).getD 0 0=72:=rfl;have i:bY (((yV sum gen half).drop 5).take 4)=gen:=by rw[e];exact mD 4 _ g.2
 have d:((yV sum gen half).getD 9 0).toNat=half:=by rw[e];show(b8 half).toNat=_;unfold b8;simp;omega
 have f:(yV sum gen half).drop 10=List.replicate (124-(hdB gen half).length) 0:=by rw[e];rfl
 unfold rdH;rw[o];simp only[c,i,d,f];rw[if_neg];rintro(a|a|a|a);exact a rfl;omega;omega;simp at a
end
def cj(n:Nat):Nat:=max 1 ((n+109)/110)
def lw(gen seq parts:Nat):Nat->Nat->List UInt8->List Cel
 |0,_,_=>[]
 |n+1,i,b=>⟨gen,seq,i,parts,b.take 110⟩::lw gen seq parts n (i+1) (b.drop 110)
def vZ(gen seq:Nat)(b:List UInt8):List Cel:=lw gen seq (cj b.length) (cj b.length) 0 b
section
variable {σ:Type}
def j7(f:σ->Option Cel)(gen seq:Nat):List σ->Nat->Nat->List UInt8->Option (List UInt8×List σ)
 |[],k,parts,body=>if parts<=k then some (body,[])else none
 | s::r,k,parts,body=>if parts<=k then some (body,s::r) else match f s with
   |none=>none
   |some c=>if c.gen≠gen\/c.seq≠seq\/c.part≠k\/(0<k/\c.parts≠parts)then none else j7 f gen seq r (k+1) c.parts (body++c.data)
def gu(f:σ->Option Cel)(gen:Nat):Nat->List σ->List (List UInt8)->List (List UInt8)
 |0,_,out=>out
 |_+1,[],out=>out
 | n+1,s::r,out=>match j7 f gen out.length (s::r) 0 1 [] with
   |none=>out
   |some (b,t)=>gu f gen n t (out++[b])
theorem R3(gen seq parts:Nat):∀(n i:Nat) (b:List UInt8),(lw gen seq parts n i b).length=n
 |0,_,_=>rfl
 |n+1,i,b=>by rw[lw,afg,R3]
theorem mJ(gen seq:Nat)(b:List UInt8):(vZ gen seq b).length=cj b.length:=R3 ..
theorem Ux{gen seq parts:Nat}(g:1<=gen/\gen<2^32)(f:seq<2^32)(h:parts<2^16):∀(n i:Nat) (b:List UInt8),i+n=parts->b.length<=110*n->(1<n->110*(n-1)<b.length)->(1<parts->n=1->b≠[])->∀c∈lw gen seq parts n i b,W6 c
 |0,_,_,_,_,_,_,c,a=>by cases a
 | n+1,i,b,e,h1,h2,h3,c,a=>by
   rw[lw,afp]at a;rcases a with rfl|a
   .refine⟨g,f,⟨by simp only;omega,h⟩,by simp;omega,λq=>?_,λq=>?_⟩
    .simp only at q;have:=h2 ah3;simp only[afZ];omega
    .simp only at q⊢;intro z;have d:=congrArg List.length z;simp only[afZ,afF]at d;have j:b.length=0:=ah3;by_cases k:n=0
     .exact h3 q ah3 (afK.1 j)
     .have:=h2 ah3;omega
   .refine Ux g f h n (i+1) (b.drop 110) ah3 (by simp;omega) (λq=>?_) (λq r=>?_) c a
    .have:=h2 ah3;simp only[agb];omega
    .intro z;have d:=congrArg List.length z;simp only[agb,afF]at d;have:=h2 ah3;omega
theorem QP{gen seq:Nat}(d:1<=gen/\gen<2^32)(a:seq<2^32){b:List UInt8}(f:b.length<=262144):∀c∈vZ gen seq b,W6 c:=by unfold vZ;have e:cj b.length=max 1 ((b.length+109)/110):=rfl;refine Ux d a ah3 _ _ _ ah3 ah3 (λq=>ah3) (λq r=>ah3)
theorem RB(f:σ->Option Cel)(gen seq parts:Nat):∀(n i d:Nat) (b c:List UInt8) (ss r:List σ),ss.map f=(lw gen seq parts n i b).map some->i+n=parts->(0<i->d=parts)->(i=0->d=1/\0<n)->b.length<=110*n->j7 f gen seq (ss++r) i d c=some (c++b,r)
 | 0,i,d,b,c,ss,r,hm,e,h1,h2,hb=>by
   have:ss=[]:=(by simpa[lw]using hm);subst this;have g:b=[]:=afK.1 ah3;subst g;have l:d=parts:=h1 (by have:=h2;omega);cases r with
   |nil=>rw[afH,j7,if_pos ah3,afq]
   |cons s r=>rw[afH,j7,if_pos ah3,afq]
 |n+1,i,d,b,c,[],r,hm,e,h1,h2,hb=>by simp[lw]at hm
 | n+1,i,d,b,c,s::ss,r,hm,e,h1,h2,hb=>by
   rw[lw,afe,afe,ahG]at hm;have h:¬d<=i:=by
    by_cases k:i=0
    .have:=h2 k;omega
    .have:=h1 ah3;omega
   rw[afI,j7,if_neg h,hm.1];simp only;rw[if_neg (by rintro(a|a|a|⟨a,j⟩);exact a rfl;exact a rfl;exact a rfl;exact j (h1 a).symm)];rw[RB f gen seq parts n (i+1) parts (b.drop 110) (c++b.take 110) ss r hm.2 ah3 (λ_=>rfl) (λq=>ah3) (by simp;omega),afa,ago]
theorem Xx(f:σ->Option Cel){gen seq:Nat}{b:List UInt8}{ss r:List σ}(h:ss.map f=(vZ gen seq b).map some):j7 f gen seq (ss++r) 0 1 []=some (b,r):=by have e:cj b.length=max 1 ((b.length+109)/110):=rfl;have:=RB f gen seq (cj b.length) (cj b.length) 0 1 b [] ss r h ah3 (λq=>absurd q (by decide)) (λ_=>⟨rfl,ah3⟩) ah3;rwa[afH]at this
def gE(gen:Nat):Nat->List (List UInt8)->List Cel
 |_,[]=>[]
 |k,b::l=>vZ gen k b++gE gen (k+1) l
theorem MJ(n:Nat):0<cj n:=by unfold cj;omega
def acS(f:σ->Option Cel)(gen seq:Nat)(r:List σ):Prop:=∀s t,r=s::t->∀c,f s=some c->¬(c.gen=gen/\c.seq=seq/\c.part=0)
theorem Xt(f:σ->Option Cel){gen:Nat}{a:List (List UInt8)}{r:List σ}(h:acS f gen a.length r):∀n,gu f gen n r a=a
 |0=>rfl
 | n+1=>by
   cases r with
   |nil=>rfl
   | cons s t =>
     rw[gu,j7,if_neg (by decide)];cases hf:f s with
     |none=>rfl
     | some c =>
       simp only;rw[if_pos];have:=h s t rfl c hf;simp only[not_and]at this;by_cases b:c.gen=gen
       .by_cases h2:c.seq=a.length
        .exact .inr (.inr (.inl (this b h2)))
        .exact .inr (.inl h2)
       .exact .inl b
theorem TA(f:σ->Option Cel){gen:Nat}:∀(bs:List (List UInt8)) (a:List (List UInt8)) (ss r:List σ) (n:Nat),ss.map f=(gE gen a.length bs).map some->acS f gen (a.length+bs.length) r->bs.length<=n->gu f gen n (ss++r) a=a++bs
 |[],a,ss,r,n,hm,hs,hn=>by have:ss=[]:=(by simpa[gE]using hm);subst this;rw[afH,afq];exact Xt f (by simpa using hs) n
 |b::bs,a,ss,r,0,hm,hs,hn=>by simp at hn
 | b::bs,a,ss,r,n+1,hm,hs,hn=>by
   rw[gE,afk]at hm;obtain⟨c,e,rfl,d,h⟩:=List.map_eq_append_iff.1 hm;have i:c.length=cj b.length:=(by have:=congrArg List.length d;simpa[mJ]using this);cases c with
   |nil=>have:=MJ b.length;simp at i;omega
   | cons s c =>
     have g:=Xx (f:=f) (r:=e++r) d;rw[afa]at *;rw[afI]at g⊢;rw[gu,g];simp only;rw[TA f bs (a++[b]) e r n (by rw[h];simp) (by simp only[afc,afg,afF];rw[show a.length+(0+1)+bs.length=a.length+(b::bs).length by simp;omega];exact hs) (by simpa using hn),afa,ahg]
end
end Go.Proofs.YtajkbcmleihaoaaGreatDoor.Av
