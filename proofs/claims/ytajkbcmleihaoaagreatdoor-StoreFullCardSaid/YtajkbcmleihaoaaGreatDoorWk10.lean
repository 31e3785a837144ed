/- Joined texts of the walk, made small by a program. -/
import Derived.Test.YtajkbcmleihaoaaGreatDoorWk4
import Derived.Test.YtajkbcmleihaoaaGreatDoorRows
import Derived.KernelRfl
import Derived.Test.YtajkbcmleihaoaaGreatDoorWk5
import Derived.Test.YtajkbcmleihaoaaGreatDoorWk8
import Derived.Lib.ValidLaws
import Derived.Test.YtajkbcmleihaoaaGreatDoorWk1
import Derived.Sort.Statements
import Derived.Maps.RangeRun
import Derived.Test.YtajkbcmleihaoaaGreatDoorWk7
set_option linter.unusedSimpArgs false
set_option linter.unusedVariables false
set_option maxRecDepth 100000
namespace Go.Proofs.YtajkbcmleihaoaaGreatDoor.Av
open Go
variable {b s t:List UInt8}{c:UInt8}{suf d dn tn:List Rdn}{id:Int}
def NN:LSO:=[o1 2 (.mv (.av (.int .u32 0)))]
def NM:LSO:=[Aa 3 0,o1 4 (.call 127 [(.av (.int .u32 0)),(tm 3)]),Aa 2 4]
def MF:aI:=⟨5,(ag6 NN [] (ag6 NM Cd .ret)),[(.tmp 2)]⟩
attribute [push_cast] NN NM
theorem Sk:ahb 92=ahc MF:=ahf
def NX:LSO:=[o1 4 (.mv (.av (.int .u32 0)))]
def NW:LSO:=[Aa 11 0,o1 12 (.un .xor (tm 11)),Aa 5 12]
def NV:LSO:=[Aa 13 1,Af 14 13,Ab 15 0]
def NU:LSO:=[Ap 16 15 14]
def NT:LSO:=[Ak 17 1 13 15,Ac 18 1 17,Aa 7 18]
def NS:LSO:=[Aa 19 7,o1 20 (.s2b (tm 19)),Af 21 20,Ab 22 0]
def NR:LSO:=[Ap 23 22 21]
def NQ:LSO:=[Ak 24 1 20 22,Ac 25 1 24,Aa 9 25]
def NP:LSO:=[Aa 26 5,Aa 27 9,o1 28 (.conv .u32 (tm 27)),o1 29 (.bin .xor (tm 26) (tm 28)),Aa 5 29]
def NO:LSO:=[Ab 30 0]
def Lt:LSO:=[AH 31 30 8]
def Lr:LSO:=[Aa 32 5,o1 33 (.bin .and (tm 32) (.av (.int .u32 1))),Aa 10 33]
def Lq:LSO:=[Aa 34 5,o1 35 (.bin .shr (tm 34) (.av (.int .u64 1))),Aa 36 10,o1 37 (.un .neg (tm 36)),o1 38 (.bin .and (.av (.int .u32 3988292384)) (tm 37)),
 o1 39 (.bin .xor (tm 35) (tm 38)),Aa 5 39]
def Lp:LSO:=[Aj 40 30 1,Aa 30 40]
def Lo:LSO:=[Aj 41 22 1,Aa 22 41]
def Ln:LSO:=[Aj 42 15 1,Aa 15 42]
def Lm:LSO:=[Aa 43 5,o1 44 (.un .xor (tm 43)),Aa 4 44]
def MG:aI:=⟨45,(ag6 NX [] (ag6 NW Cd (.seq (ag6 NV [] (ag9 0 (ag6 NU [] (.seq (aha 16 0) (.seq (.block 1 (ag6 NT Cd (ag6 NS Co (ag9 2 (ag6 NR [] (.seq (aha 23 2) (.seq (.block 3 (ag6 NQ Cd (ag6 NP Cf (ag6 NO [] (ag9 4 (ag6 Lt [] (.seq (aha 31 4) (.seq (.block 5 (ag6 Lr Cd (.sreg Lq Cg))) (.sreg Lp Cc))))))))) (.sreg Lo Cc)))))))) (.sreg Ln Cc)))))) (ag6 Lm Cd .ret)))),[(.tmp 4)]⟩
attribute [push_cast] NX NW NV NU NT NS NR NQ NP NO Lt Lr Lq Lp Lo Ln Lm
theorem Sl:ahb 127=ahc MG:=ahf
def Ll:LSO:=[AJ 2]
def Lk:LSO:=[Aa 5 0,BP 6 5 8192,Bt 7 0 6,Aa 3 7]
def Lj:LSO:=[Aa 8 3,o1 9 (.mkslice 1 16 [(.str [])] (tm 8) (tm 8)),
 .op ⟨(some 10),.mkmap,none⟩,Aa 11 3,
 o1 12 (.build [(.sl [] 0 (some 0)),.nilmap,(.int .i64 0),(.bool false),(.int .i64 0),(.int .u64 0),(.int .i64 0),(.int .i64 0)] [(0,(1,(tm 9))),(1,(1,(tm 10))),(2,(1,(tm 11)))]),
 A1 13 12,Aa 4 13]
def Li:LSO:=[Aa 14 4,o1 15 (.call 20 [(tm 14),(.av (.str []))])]
def Lh:LSO:=[Aa 16 4,Aa 2 16]
def JA:aI:=⟨17,(ag6 Ll [] (ag6 Lk Ce (ag6 Lj Cg (ag6 Li Cw (ag6 Lh Cc .ret))))),[(.tmp 2)]⟩
attribute [push_cast] Ll Lk Lj Li Lh
theorem QR:ahb 6=ahc JA:=ahf
def vC:LSO:=[Aa 6 0,AB 7 6]
def vB:LSO:=[Aa 8 0,Ae 9 8,Ad 10 0 9,Ac 11 1 10,Af 12 11,Ab 13 0]
def vA:LSO:=[Ap 14 13 12]
def vz:LSO:=[Aa 15 13,Aa 4 15]
def vy:LSO:=[o1 16 (.mkslice 1 1 [(.int .u8 0)] (iv 128) (iv 128)),Aa 5 16]
def vx:LSO:=[Aa 17 1,Aa 18 5,Aa 19 1,o1 20 (.copy 1 (tm 18) (tm 19)),B9 21 17 20,Aa 1 21]
def vw:List (aj×Kd):=
 [Ar 22 0,A3 23 22 0 0,Au 24 0 23,Aw 25 1 24 0 0,Ar 26 4,Ar 27 5,od 28 (.b2s (tm 27)) (.read 0 0)]
def sf:List aj :=
 [⟨(some 29),(.iaddr 1 (tm 25) (tm 26)),none⟩,⟨none,(.store 1 (tm 29) (tm 28)),none⟩]
def vv:LSO:=[Aj 30 13 1,Aa 13 30]
def vu:LSO:=[Aa 31 0,Ae 32 31,Ad 33 1 32,Ac 34 1 33,o0 (.mclr (tm 34))]
def nP:aI:=⟨35,(.seq (ag6 vC Cc (ag7 7 .ret .skip)) (.seq (ag6 vB Cx (ag9 0 (ag6 vA [] (.seq (aha 14 0) (.seq (.block 1 (ag6 vz Cc (ag6 vy Cc (ag6 vx Ch (.dregM vw sf C0))))) (.sreg vv Cc)))))) (.sreg vu Cp))),[]⟩
attribute [push_cast] vC vB vA vz vy vx vw sf vv vu
theorem JC:ahb 20=ahc nP:=ahf
def lL:LSO:=[Ab 2 0]
def lK:LSO:=[Aa 3 0,AB 4 3]
def lJ:LSO:=[Ab 2 0]
def lI:LSO:=[Aa 5 0,Ae 6 5,Ad 7 0 6,Ac 8 1 7,Af 9 8,Aa 2 9]
def iY:aI:=⟨10,(ag6 lL [] (.seq (ag6 lK Cc (ag8 4 (.sreg lJ []))) (ag6 lI Ch .ret))),[(.tmp 2)]⟩
attribute [push_cast] lL lK lJ lI
theorem zc:ahb 51=ahc iY:=ahf
def rU:LSO:=[Ab 2 0]
def rT:LSO:=[Aa 3 0,AB 4 3]
def rS:LSO:=[Ab 2 0]
def rR:LSO:=[Aa 5 0,Ae 6 5,Ad 7 2 6,Ac 8 1 7,Aa 9 0,Ae 10 9,Ad 11 0 10,Ac 12 1 11,Af 13 12,o1 14 (.minmax false [(tm 8),(tm 13)]),Aa 2 14]
def lX:aI:=⟨15,(ag6 rU [] (.seq (ag6 rT Cc (ag8 4 (.sreg rS []))) (.seq (.sdreg rR [.pure,(.read 0 0),.pure,(.read 0 0),.pure,(.read 0 0),.pure,(.read 0 0),(.read 0 0)] Cu) .ret))),[(.tmp 2)]⟩
attribute [push_cast] rU rT rS rR
theorem G4:ahb 65=ahc lX:=ahf
def pX:LSO:=[Aa 4 0,o1 5 (.eqk true .ptr (tm 4) (.av .nilptr))]
def pW:LSO:=[Aa 6 0,Aa 7 1,Bt 8 0 7,Ae 9 6,Ad 10 2 9,Ai 1 10 8]
def kS:aI:=⟨11,(ag6 pX Cc (ag7 5 (.sreg pW Cy) .skip)),[]⟩
attribute [push_cast] pX pW
theorem Gu:ahb 15=ahc kS:=ahf
def pL:LSO:=[Ab 4 0]
def pK:LSO:=[Aa 6 0,AB 7 6,Aa 5 7]
def pJ:LSO:=[Ab 4 1]
def pI:LSO:=[Aa 9 0,Ae 10 9,Ad 11 3 10,Ac 12 1 11,Aa 8 12]
def pH:LSO:=[Ab 4 10]
def pG:LSO:=[Aa 14 1,AH 15 14 0,Aa 16 15,.grp none 16 false
 [Ah 17 16 1,Ah 18 16 0,Bv 19 16 18,A7 20 16 0 19,A4 21 16 1 20,AI 22 16 21,og 23 16 false (.bin .geq (tm 17) (tm 22))]
 24 (tm 23),Aa 13 24]
def pF:LSO:=[Ab 4 2]
def pE:LSO:=[Ab 4 0]
def bT:aI:=⟨25,(ag6 pL [] (.seq (.block 0 (ag6 pK Cd (ag7 5 (ag6 pJ [] .ret) (ag6 pI Cf (ag7 8 (ag6 pH [] .ret) (ag6 pG Cf (ag8 13 (.sreg pF [])))))))) (ag6 pE [] .ret))),[(.tmp 4)]⟩
attribute [push_cast] pL pK pJ pI pH pG pF pE
theorem im:ahb 81=ahc bT:=ahf
def se:LSO:=[As 4,Ab 5 0]
def sb:LSO:=[Aa 9 0,Aa 10 1,Ax 11 81 9 10,Aa 6 11]
def sa:LSO:=[Aa 12 6,Az 13 12 0]
def rZ:LSO:=[Aa 14 6,As 4,Aa 5 14]
def rY:LSO:=[Aa 16 0,Ae 17 16,Ad 18 1 17,Ac 19 1 18,Aa 20 1,o1 21 (.mget .int true (.str []) (tm 19) (tm 20)),Aa 15 21,Am 22 15,An 23 15,Aa 7 22,Aa 8 23]
def rX:LSO:=[Aa 24 8]
def rW:LSO:=[Aa 25 7,Aa 4 25,Ab 5 0]
def rV:LSO:=[Aa 26 0,Ae 27 26,Ad 28 0 27,Ac 29 1 28,Aa 30 1,Ak 31 1 29 30,Ac 32 1 31,Aa 4 32,Ab 5 0]
def fm:aI:=⟨33,(ag6 se [] (.seq (ag6 sb Ce (ag6 sa Cc (ag8 13 (.sreg rZ Ci)))) (.seq (ag6 rY C2 (ag6 rX [] (ag8 24 (.sreg rW Ci)))) (ag6 rV Cv .ret)))),[(.tmp 4),(.tmp 5)]⟩
attribute [push_cast] se sb sa rZ rY rX rW rV
theorem qt:ahb 52=ahc fm:=ahf
def vt:LSO:=[Al 2]
def vr:LSO:=[Aa 3 0,Ae 4 3,Ad 5 4 4,Ac 6 1 5,A0 7 6 0]
def vq:LSO:=[Al 2]
def vp:LSO:=[Aa 8 0,Ae 9 8,Ad 10 4 9,Ac 11 1 10,AM 12 11 1,Ae 13 8,Ad 14 4 13,Ai 1 14 12]
def vn:LSO:=[Aa 15 0,Ae 16 15,Ad 17 4 16,Ac 18 1 17,A0 19 18 0,Aa 2 19]
def nO:aI:=⟨20,(ag6 vt [] (.seq (ag6 vr Cf (ag8 7 (.sreg vq []))) (ag6 vp C1 (ag6 vn Ch .ret)))),[(.tmp 2)]⟩
attribute [push_cast] vt vr vq vp vn
theorem JB:ahb 119=ahc nO:=ahf
def pV:LSO:=[Ab 6 0]
def pU:LSO:=[Aa 8 0,Aa 9 1,Ax 10 81 8 9,Aa 7 10]
def pT:LSO:=[Aa 11 7,Az 12 11 0]
def pS:LSO:=[Aa 13 7,Aa 6 13]
def pR:LSO:=[Aa 14 2,A5 15 14,Az 16 15 128]
def pQ:LSO:=[Ab 6 2]
def pP:LSO:=[Aa 17 1,Aa 18 0,Ag 19 65 18,o1 20 (.bin .geq (tm 17) (tm 19))]
def pO:LSO:=[Ab 6 11]
def pN:LSO:=[Aa 21 0,Ae 22 21,Ad 23 1 22,Ac 24 1 23,Aa 25 1,Aa 26 2,o0 (.mset .int (tm 24) (tm 25) (tm 26))]
def pM:LSO:=[Aa 27 0,Ag 28 119 27]
def m8:LSO:=[Aa 29 0,Ag 30 120 29,Aa 6 30]
def m7:LSO:=[Ab 6 0]
def eu:aI:=⟨31,(ag6 pV [] (.seq (ag6 pU Ce (ag6 pT Cc (ag8 12 (.sreg pS Cc)))) (.seq (ag6 pR Cd (ag8 16 (.sreg pQ []))) (.seq (ag6 pP Ce (ag8 20 (.sreg pO []))) (ag6 pN C3 (.seq (ag6 pM Cc (ag8 28 (.sreg m8 Cd))) (ag6 m7 [] .ret))))))),[(.tmp 6)]⟩
attribute [push_cast] pV pU pT pS pR pQ pP pO pN pM m8 m7
theorem nz:ahb 89=ahc eu:=ahf
def qi:LSO:=[Ab 2 0]
def qh:LSO:=[Aa 6 0,AE 7 81 6 0,Aa 3 7]
def qg:LSO:=[Aa 8 3,Az 9 8 0,Aa 10 9,.grp none 10 true
 [Ao 11 10 3,BF 12 10 11 2]
 13 (tm 12)]
def qf:LSO:=[Aa 14 3,Aa 2 14]
def qe:LSO:=[Aa 15 0,Ag 16 119 15]
def qd:LSO:=[Aa 17 0,Ag 18 120 17,Aa 2 18]
def qc:LSO:=[Aa 19 0,Ae 20 19,Ad 21 1 20,Ac 22 1 21,o1 23 (.mrange (tm 22))]
def p9:LSO:=[o1 24 (.mnext (tm 23)),Am 25 24]
def pZ:LSO:=[o1 26 (.mentry (tm 23)),Am 27 26,An 28 26,Aa 4 27,Aa 5 28]
def pY:LSO:=[Aa 29 0,Ae 30 29,Ad 31 0 30,Ac 32 1 31,Aa 33 4,Aa 34 5,Ak 35 1 32 33,Ai 1 35 34]
def nf:LSO:=[Aa 36 0,Ae 37 36,Ad 38 1 37,Ac 39 1 38,Aa 40 4,o0 (.mdel .int (tm 39) (tm 40))]
def m9:LSO:=[Ab 2 0]
def kT:aI:=⟨41,(ag6 qi [] (.seq (ag6 qh Cd (ag6 qg Ce (ag8 13 (.sreg qf Cc)))) (.seq (ag6 qe Cc (ag8 16 (.sreg qd Cd))) (.seq (ag6 qc Cf (ag9 0 (ag6 p9 Cc (.seq (aha 25 0) (.block 1 (ag6 pZ Cm (ag6 pY C1 (.sreg nf Cy)))))))) (ag6 m9 [] .ret))))),[(.tmp 2)]⟩
attribute [push_cast] qi qh qg qf qe qd qc p9 pZ pY nf m9
theorem Gv:ahb 90=ahc kT:=ahf
def rQ:LSO:=[A1 3 1]
def rP:LSO:=[Ab 4 0]
def rO:LSO:=[Aa 9 0,Ae 10 9,Ad 11 0 10,Ac 12 1 11,Af 13 12,Ab 14 0]
def rN:LSO:=[Ap 15 14 13]
def rM:LSO:=[Aa 16 14,Aa 5 16]
def rL:LSO:=[Aa 18 0,Ae 19 18,Ad 20 1 19,Ac 21 1 20,Aa 22 5,o1 23 (.mget .int true (.str []) (tm 21) (tm 22)),Aa 17 23,Am 24 17,An 25 17,Aa 6 24,Aa 7 25]
def rK:LSO:=[Aa 26 7,A6 27 26]
def rJ:LSO:=[Aa 29 4,Ad 30 1 3,Ac 31 1 30,Bb 32 29 31,Aa 28 32]
def rI:LSO:=[Ad 33 2 3,Ac 34 1 33,Bt 35 0 34,o1 36 (.bin .rem (tm 35) (iv 129)),Aa 8 36]
def rH:List (aj×Kd):=
 [Ar 37 0,A3 38 37 0 0,Au 39 0 38,Aw 40 1 39 0 0,Ar 41 5,Ar 42 6,Ar 43 8,od 44 (.slS (tm 42) none (some (tm 43))) (.read 0 0),Ar 45 0,A3 46 45 0 0,Au 47 0 46,Aw 48 1 47 0 0,
 Ar 49 5,od 50 (.iaddr 1 (tm 48) (tm 49)) (.read 0 0),Aw 51 1 50 0 0,Ar 52 8,BX 53 51 52 0 0,Bg 54 44 53]
def pu:List aj :=
 [⟨(some 55),(.iaddr 1 (tm 40) (tm 41)),none⟩,⟨none,(.store 1 (tm 55) (tm 54)),none⟩]
def pD:LSO:=[Ad 57 0 3,Ac 58 1 57,Aa 59 4,o1 60 (.bin .rem (tm 59) (iv 64)),o1 61 (.bin .shr (tm 58) (tm 60)),o1 62 (.bin .and (tm 61) (.av (.int .u64 1))),
 o1 63 (.bin .eql (tm 62) (.av (.int .u64 1))),Aa 56 63]
def pC:LSO:=[Aa 64 0,Ae 65 64,Ad 66 0 65,Ac 67 1 66,Aa 68 5,Aa 69 6,Ak 70 1 67 68,Ai 1 70 69]
def pB:LSO:=[Aa 71 4,Aj 72 71 1,Aa 4 72]
def pA:LSO:=[Aj 73 14 1,Aa 14 73]
def pw:LSO:=[Aa 74 0,Ae 75 74,Ad 76 1 75,Ac 77 1 76,o0 (.mclr (tm 77))]
def lW:aI:=⟨78,(ag6 rQ [] (ag6 rP [] (.seq (ag6 rO Cx (ag9 0 (ag6 rN [] (.seq (aha 15 0) (.seq (.block 1 (ag6 rM Cc (ag6 rL C2 (.seq (ag6 rK Cc (ag7 27 (.exit 1) .skip)) (.seq (.block 2 (ag6 rJ Cf (ag7 28 (ag6 rI Cf (.dregM rH pu CG)) (ag6 pD Cj (ag7 56 (.sreg pC C1) .skip))))) (.sreg pB Cd)))))) (.sreg pA Cc)))))) (.sreg pw Cp)))),[]⟩
attribute [push_cast] rQ rP rO rN rM rL rK rJ rI rH pu pD pC pB pA pw
theorem G3:ahb 59=ahc lW:=ahf
def qo:LSO:=[A1 3 1]
def qn:LSO:=[Aa 4 0,AB 5 4]
def qm:LSO:=[Aa 6 0,Ae 7 6,Ad 8 3 7,Ac 9 1 8,A6 10 9]
def ql:LSO:=[Aa 11 0,Ay 12 3 3,Ax 13 59 11 12]
def qj:LSO:=[Aa 14 0,Ag 15 60 14]
def kU:aI:=⟨16,(ag6 qo [] (.seq (ag6 qn Cc (ag7 5 .ret .skip)) (.seq (ag6 qm Cf (ag7 10 (.sreg ql Ct) .skip)) (.sreg qj Cw)))),[]⟩
attribute [push_cast] qo qn qm ql qj
theorem Gw:ahb 24=ahc kU:=ahf
def yf:LSO:=[Aa 2 0,o1 3 (.eqk true .ptr (tm 2) (.av .nilptr))]
def ye:LSO:=[Aa 4 0,Aa 5 0,Ae 6 4,Ad 7 3 6,o0 (.store 1 (tm 7) (.av (.bool false))),Ae 8 5,Ad 9 4 8,o0 (.store 1 (tm 9) (iv 0))]
def sI:aI:=⟨10,(ag6 yf Cc (ag7 3 (.sreg ye C3) .skip)),[]⟩
attribute [push_cast] yf ye
theorem LW:ahb 60=ahc sI:=ahf
attribute [push_cast] MF MG JA nP iY lX kS bT fm nO eu kT lW kU sI
set_option maxHeartbeats 8000000
set_option maxRecDepth 100000
abbrev WtE:=Int×List UInt8×Nat
def wtA(e:WtE):AV×AV×Nat:=(.int .i64 e.1,.str e.2.1,e.2.2)
abbrev fy(lp wp:Nat)(n:Nat)(cp:Option Nat)(lim:Int)(off:Bool)(left:Int)(x y z:AV):List AV:=[.lsl lp 0 n cp 1,.lmap wp,.int .i64 lim,.bool off,.int .i64 left,x,y,z]
section
variable {L:List Blk}{dp lp wp n:Nat}{cp:Option Nat}{lim left:Int}{off:Bool}{x y z:AV}
theorem Wi(hd:L[dp]?=some (.cells (fy lp wp n cp lim off left x y z))){K:aeh}(h:K (.int .i64 n) L):aeg 51 [.ptr dp 0] L K:=by replace h:=hid h;refine aef zc ?_;exact ag h.o
theorem Sa(hd:L[dp]?=some (.cells (fy lp wp n cp lim off left x y z))){K:aeh}(h:K (.int .i64 (if(n:Int)<lim then(n:Int)else lim)) L):aeg 65 [.ptr dp 0] L K:=by replace h:=hid h;refine aef G4 ?_;exact ag h.o
theorem P2(hd:L[dp]?=some (.cells (fy lp wp n cp lim off left x y z))){i:Int}{K:aeh}(h:K (.int .i64 (if off=true then 10 else if i<0\/(n:Int)<=i then 2 else 0)) L):aeg 81 [.ptr dp 0,.int .i64 i] L K:=by
 cases off with
 | true =>
   replace h:=hid h;refine aef im ?_;exact ag h.o
 | false =>
   by_cases a:i<0\/(n:Int)<=i
   .have h2:=hid (show K (.int .i64 2) L by rw[if_neg (by decide),if_pos a]at h;exact h);have g:decide (i<0\/(n:Int)<=i)=true:=decide_eq_true a;clear h a;refine aef im ?_;exact ag h2.o
   .have h2:=hid (show K (.int .i64 0) L by rw[if_neg (by decide),if_neg a]at h;exact h);have g:decide (i<0\/(n:Int)<=i)=false:=decide_eq_false a;clear h a;refine aef im ?_;exact ag h2.o
end
set_option maxHeartbeats 8000000
set_option maxRecDepth 100000
theorem OF:∀(ws:List WtE) (i:Int) (j:Nat),bF (.int .i64 i) (ws.map wtA) j=some ((ws.findIdx? λe=>decide (e.1=i)).map λn=>(j+n,.str (ws.getD n default).2.1))
 |[],i,j=>rfl
 | e::ws,i,j=>by
   by_cases h:i=e.1
   .simp[bF,wtA,yj,afJ,h]
   .have h':¬e.1=i:=λq=>h q.symm
    simp only[aex,wtA,bF,yj,if_true,decide_eq_false h,afJ,decide_eq_false h',aeE,if_false];rw[show bF (AV.int IntKind.i64 i) (ws.map wtA) (j+1)=_ from OF ws i (j+1),Option.map_map];cases ws.findIdx? λe=>decide (e.1=i)with
    |none=>rfl
    |some n=>simp;omega
def sL(ls:List (List UInt8))(ws:List WtE)(i:Nat):List UInt8:=match ws.find? (λe=>decide (e.1=(i:Int)))with|some e=>e.2.1|none=>ls.getD i []
theorem RF(ws:List WtE)(i:Int):((ws.findIdx? λe=>decide (e.1=i))=none/\ws.find? (λe=>decide (e.1=i))=none)\/∃n,(ws.findIdx? λe=>decide (e.1=i))=some n/\ws.find? (λe=>decide (e.1=i))=some (ws.getD n default):=by
 cases h:ws.findIdx? λe=>decide (e.1=i)with
 |none=>exact .inl ⟨rfl,by rw[ag0]at h;exact afr.2 λx b=>by simpa using h x b⟩
 | some n =>
   refine .inr ⟨n,rfl,?_⟩;rw[agA]at h;obtain⟨a,d,f⟩:=h;rw[List.find?_eq_some_iff_getElem];exact⟨by simpa[a]using d,n,a,by simp[a],λj c=>by simpa using f j c⟩
def JI(ws:List WtE)(ck:Nat)(i:Int)(s:List UInt8):List WtE×Nat:=match ws.findIdx? λe=>decide (e.1=i)with
 |none=>(ws++[(i,s,ck)],ck+1)
 |some n=>(ws.set n (i,s,(ws.getD n default).2.2),ck)
theorem V6:∀(ws:List WtE) (n:Nat) (i:Int) (s:List UInt8),n<ws.length->UN (.int .i64 i) (.str s) (ws.map wtA) n=(ws.set n (i,s,(ws.getD n default).2.2)).map wtA
 |e::ws,0,i,s,h=>rfl
 |e::ws,n+1,i,s,h=>by rw[aex,List.set_cons_succ,aex];rw[UN,V6 ws n i s (by simpa using h)];rfl
section
variable {L:List Blk}{dp lp wp ck:Nat}{cp:Option Nat}{lim left:Int}{x y z:AV}{ls:List (List UInt8)}{ws:List WtE}
theorem abu(hd:L[dp]?=some (.cells (fy lp wp ls.length cp lim false left x y z)))(j:L[lp]?=some (.cells (ls.map AV.str)))(k:L[wp]?=some (.map (ws.map wtA) ck)){i:Nat}(d:i<ls.length){K:aeh}(h:K (.tup [.str (sL ls ws i),.int .i64 0]) L):aeg 52 [.ptr dp 0,.int .i64 i] L K:=by
 have kk1:Hid (∀{K:aeh},K (.int .i64 0) L->aeg 81 [.ptr dp 0,.int .i64 i] L K):=@hid _ (λ{K} q=>P2 hd (by rw[if_neg (by decide),if_neg ahd];exact q));have c:=OF ws (i:Int) 0;have e:aT .int (.int .i64 (i:Int))=true:=rfl;unfold sL at h;have f:(ls.map AV.str).getD i .undef=.str (ls.getD i []):=by simp[d]
 have g:i<(ls.map AV.str).length:=by simpa using d
 rcases RF ws i with⟨a,b⟩|⟨n,a,b⟩;rw[b]at h;rw[a]at c;simp only[aeT]at c;replace h:=hid h;clear a b;refine aef qt ?_;exact ag h.o;rw[b]at h;rw[a]at c;simp only[aeC]at c;replace h:=hid h;clear a b;refine aef qt ?_;exact ag h.o
theorem ZL(hd:L[dp]?=some (.cells (fy lp wp ls.length cp lim false 0 x y z))){K:aeh}(h:K (.bool false) L):aeg 119 [.ptr dp 0] L K:=by replace h:=hid h;refine aef JB ?_;exact ag h.o
theorem ZE(hd:L[dp]?=some (.cells (fy lp wp ls.length cp lim false 0 x y z)))(p:L[lp]?=some (.cells (ls.map AV.str)))(r:L[wp]?=some (.map (ws.map wtA) ck))(f:wp≠dp){i:Nat}{s:List UInt8}(k:s.length=128)(l:i<ls.length)(hr:(i:Int)<lim){K:aeh}(h:K (.int .i64 0) (L.set wp (.map ((JI ws ck i s).1.map wtA) (JI ws ck i s).2))):aeg 89 [.ptr dp 0,.int .i64 i,.str s] L K:=by
 have kk1:Hid (∀{K:aeh},K (.int .i64 0) L->aeg 81 [.ptr dp 0,.int .i64 i] L K):=@hid _ (λ{K} q=>P2 hd (by rw[if_neg (by decide),if_neg ahd];exact q));obtain⟨rm,c⟩:=aec ((if(ls.length:Int)<lim then(ls.length:Int)else lim));have kk2:Hid (∀{K:aeh},K (.int .i64 rm) L->aeg 65 [.ptr dp 0] L K):=@hid _ (λ{K} q=>Sa hd (by rw[c];exact q));have e:=OF ws (i:Int) 0;have j:aT .int (.int .i64 (i:Int))=true:=rfl;have g1:(s.length:Int)=128:=ahd;have m:decide (rm<=(i:Int))=false:=decide_eq_false (by rw[<- c];split<;>omega);have kk3:Hid (∀{b:Blk}{K:aeh},K (.bool false) (L.set wp b)->aeg 119 [.ptr dp 0] (L.set wp b) K):=@hid _ (λ{b K} q=>ZL (L:=L.set wp b) (by rw[aeo f];exact hd) q);rcases RF ws i with⟨a,b⟩|⟨n,a,b⟩;unfold JI at h;rw[a]at e h;simp only[aeT]at e;have g:=hid h;simp only[aeD,aex,afh,wtA]at g;clear a b c h;refine aef nz ?_;exact ag g.o;have d:n<ws.length:=by rw[agA]at a;exact a.1
 unfold JI at h;rw[a]at e h;simp only[aeC,afE]at e;rw[<- V6 ws n i s d]at h;replace h:=hid h;clear a b c d;refine aef nz ?_;exact ag h.o
end
def Cn(x:Nat):Prop:=128<=x/\x<192
instance (x:Nat):Decidable (Cn x):=by unfold Cn;infer_instance
def XL(n b0 b1:Nat):Prop:=n<2\/¬Cn b1\/(b0-192)*64+b1-128<128
def adR(n b0 b1 b2:Nat):Prop:=n<3\/¬Cn b1\/¬Cn b2\/((b0-224)*64+b1-128)*64+b2-128<2048\/55296<=((b0-224)*64+b1-128)*64+b2-128/\((b0-224)*64+b1-128)*64+b2-128<57344
def adQ(n b0 b1 b2 b3:Nat):Prop:=n<4\/¬Cn b1\/¬Cn b2\/¬Cn b3\/(((b0-240)*64+b1-128)*64+b2-128)*64+b3-128<65536\/1114111<(((b0-240)*64+b1-128)*64+b2-128)*64+b3-128
instance (n b0 b1:Nat):Decidable (XL n b0 b1):=by unfold XL;infer_instance
instance (n b0 b1 b2:Nat):Decidable (adR n b0 b1 b2):=by unfold adR;infer_instance
instance (n b0 b1 b2 b3:Nat):Decidable (adQ n b0 b1 b2 b3):=by unfold adQ;infer_instance
set_option maxHeartbeats 8000000
set_option maxRecDepth 100000
theorem jy(c:UInt8):(qw c).toNat=if 65<=c.toNat/\c.toNat<=90 then c.toNat+32 else c.toNat:=by
 by_cases h:65<=c.toNat/\c.toNat<=90;have:=Wa h.1 h.2
 grind
 rw[LA h,if_neg h]
theorem Rn(c:UInt8):qw (qw c)=qw c:=by
 refine LA ?_;rw[jy]
 grind
theorem PT(s:List UInt8):aE (aE s)=aE s:=by unfold aE;rw[aeH];exact afk λc _=>Rn c
theorem Pl(s:List UInt8)(c:UInt8):bL (s++[c])=aK (bL s) c:=by simp[bL]
theorem Pm(s:List UInt8):(bL s).length<=s.length:=by have:=yg s s.length;simp_all
theorem RN(c:UInt8)(h:bL b=b):bL (aK b c)=aK b c:=by by_cases a:c=32/\PX b=true;simp only[aK,if_pos a];exact h;simp only[aK,if_neg a];rw[Pl,h,aK,if_neg a]
theorem TM:∀(s b:List UInt8),bL b=b->bL (s.foldl aK b)=s.foldl aK b
 |[],_,h=>h
 |c::s,b,h=>TM s (aK b c) (RN c h)
theorem Mf(s:List UInt8):bL (bL s)=bL s:=TM s [] rfl
theorem abq(h:bL (b++[c])=b++[c]):bL b=b/\¬(c=32/\PX b=true):=by
 rw[Pl]at h;unfold aK at h;split at h;have:=Pm b
 grind
 simp_all
theorem Ma(h:bL b=b):bL (eA b)=eA b/\eA (eA b)=eA b:=by
 rcases af6 b with rfl|⟨d,c,rfl⟩;simp[eA,bL];rw[agE]at h⊢;obtain⟨f,g⟩:=abq h;rw[qB];split;rename_i a;refine⟨f,?_⟩;have i:PX d=false:=by simpa[a]using g
 unfold eA;rw[if_neg];intro e;simp[PX,e]at i;rename_i a;exact⟨h,by rw[qB,if_neg a]⟩
theorem RX{x:UInt8}(h:x∈aK b c):x∈b\/x=c:=by
 unfold aK at h
 grind
theorem Tn:∀(s b:List UInt8){x:UInt8},x∈s.foldl aK b->x∈b\/x∈s
 |[],_,_,h=>.inl h
 | c::s,b,x,h=>by
   rcases Tn s (aK b c) h with a|a
   .rcases RX a with d|d
    .simp[*]
    simp[*]
   simp[*]
theorem W9{x:UInt8}(h:x∈eA b):x∈b:=by unfold eA at h;split at h;exact(List.dropLast_sublist b).subset h;omega
theorem Xa{x:UInt8}(h:x∈bC s):∃c∈s,x=qw c:=by
 rcases Tn _ _ (W9 h)with a|a;simp_all;obtain⟨c,b,rfl⟩:=ael.1 a
 grind
theorem TN(s:List UInt8):aE (bC s)=bC s:=by unfold aE;rw[afk (g:=id) (λx a=>?_),List.map_id];obtain⟨c,_,rfl⟩:=Xa a;exact Rn c
theorem UF(s:List UInt8):bC (bC s)=bC s:=by
 have a:bC (bC s)=eA (bL (bC s)):=by show eA (bL (aE (bC s)))=_;rw[TN]
 rw[a];have b:=Ma (Mf (aE s));show eA (bL (eA (bL (aE s))))=eA (bL (aE s));simp[*]
def Chr(q:List UInt8):Prop:=q≠[]/\(∀s,Lib.validD (q++s)=Lib.validD s)/\((∃c:UInt8,q=[c]/\c.toNat<128)\/∀c∈q,128<=c.toNat)
inductive Seg:List UInt8->Prop
 |nil:Seg []
 |cons{q s:List UInt8}:Chr q->Seg s->Seg (q++s)
theorem Seg.app{a:List UInt8}(h:Seg a)(c:Seg b):Seg (a++b):=by
 induction h with
 |nil=>exact c
 |cons hq _ ih=>rw[aew];exact .cons hq ih
theorem Seg.last(h:Seg s):∀d:List UInt8,s=d++[32]->Seg d:=by
 induction h with
 |nil=>intro d e;simp at e
 | @cons q s hq hs ih =>
   intro d e;rcases af6 s with rfl|⟨f,c,rfl⟩
   .rw[aeL]at e;subst e;rcases hq.2.2 with⟨c,a,_⟩|g
    .have:d=[]:=by have:=congrArg List.length a;simp at this;omega
     simp[*]
    .have:=g 32 ahe;simp_all
   .rw[agE]at *;rw[<- aew]at e;obtain⟨b,a⟩:=List.append_inj' e rfl;subst b;rw[a]at ih hs;exact .cons hq (ih f rfl)
def Dif(a b:Ava):Prop:=aE a.1≠aE b.1
theorem Wf{r:Rdn}:DT r t=false↔∀a∈r,aE a.1≠aE t:=by simp[DT]
theorem P8:∀(t done:Rdn),done.length<=8->(ez done t=0↔done.length+t.length<=8/\(∀a∈t,vX a.1=true)/\(∀a∈done,∀b∈t,Dif a b)/\t.Pairwise Dif)
 |[],done,h=>by simp[ez,h]
 | a::t,done,h=>by
   unfold ez;by_cases j:done.length=8
   .grind
   rw[if_neg j];by_cases c:vX a.1=false
   .simp[*]
   rw[if_neg c];by_cases g:DT done a.1=true
   .rw[if_pos g];constructor
    .omega
    .intro e;have:DT done a.1=false:=Wf.2 λb d=>e.2.2.1 b d a ahe
     simp_all
   rw[if_neg g,P8 t (done++[a]) (by simp;omega)];simp only[Bool.not_eq_false]at c;have f:=Wf.1 (by simpa using g);simp only[aez,aeB,aeY,aen,aeG,aeJ,afq,or_false,forall_eq_or_imp,List.pairwise_cons];constructor
   .rintro⟨e1,e2,e3,e4⟩;refine⟨ahd,⟨c,e2⟩,λx i=>⟨f x i,λb d=>e3 x (.inl i) b d⟩,λb d=>e3 a (.inr rfl) b d,e4⟩
   grind
theorem WD(h:vX t=true):vX (aE t)=true:=by
 simp only[vX,aeq,aev,decide_eq_true_eq]at h⊢;obtain⟨⟨⟨d,f⟩,i⟩,h4⟩:=h;have a:∀c:UInt8,sq (c.toNat:Int)=true->sq ((qw c).toNat:Int)=true:=by intro c b;have:=jy c;split at this;rw[this];simp only[sq,ae4,aeq,decide_eq_true_eq]at b⊢;omega;simp[*]
 refine⟨⟨⟨by simpa[aE]using d,by simpa[aE]using f⟩,?_⟩,?_⟩;rcases t with _|⟨c,t⟩;simp_all;simpa[aE]using a c (by simpa using i);intro c b;obtain⟨x,g,rfl⟩:=ael.1 b;have:=h4 x g;simp only[Oc,ae4]at this⊢;rcases this with(e|e)|e;simp[*];refine .inl (.inr ?_);simp only[aeq,decide_eq_true_eq]at e⊢;rw[jy,if_neg ahd];exact e;refine .inr ?_;simp only[decide_eq_true_eq]at e⊢;rw[jy,if_neg ahd];exact e
theorem Pp(r:Rdn):(sh r).Perm (r.map GY):=by have:=(PS r [] List.Pairwise.nil).2;rwa[ae5]at this
theorem W4(a:Ava):GY (GY a)=GY a:=by simp[GY,PT,UF]
theorem Sd{r:Rdn}(h:ez [] r=0):ez [] (sh r)=0:=by
 rw[P8 _ _ ahe]at h⊢;obtain⟨f,g,_,h4⟩:=h;have d:=Pp r;refine⟨by simpa[Pq]using f,λa c=>?_,λa c=>(by cases c),?_⟩;obtain⟨b,i,rfl⟩:=ael.1 (d.mem_iff.1 c);exact WD (g b i);refine(d.pairwise_iff (λ{a b} e=>Ne.symm e)).2 ?_;rw[List.pairwise_map];refine h4.imp λ{a b} e=>?_
 simpa[Dif,GY,PT]using e
theorem P9:∀(d:List Rdn) (i:Nat),nH i d=0->nH i (yF d)=0
 |[],_,h=>h
 | r::d,i,h=>by
   unfold nH at h;show nH i (sh r::yF d)=0;unfold nH;split at h
   .omega
   rename_i a;split at h
   .omega
   rename_i hr;split at h
   .omega
   rename_i b;simp only[ne_eq,agz]at b;rw[if_neg a,if_neg,if_neg (by simpa using Sd b),P9 d _ h];intro e;have:=congrArg List.length e;rw[Pq]at this;simp_all
def wtB(c:UInt8):Nat:=if c=0 then 3 else if c∈([34,43,44,59,60,62,92]:List UInt8)then 2 else 1
def wtS(s:List UInt8):Nat:=(s.map wtB).sum
theorem VC(a b:List UInt8):wtS (a++b)=wtS a+wtS b:=by simp[wtS]
theorem ack:∀c:UInt8,wtB (qw c)=wtB c:=by
 intro c;by_cases h:65<=c.toNat/\c.toNat<=90
 .have h2:=jy c;rw[if_pos h]at h2;have g:∀x:UInt8,65<=x.toNat->x.toNat≠92->wtB x=1:=by
   intro x a b;unfold wtB;rw[if_neg (by rintro rfl;exact absurd a (by decide)),if_neg];simp only[aeJ,afq,or_false];rintro(rfl|rfl|rfl|rfl|rfl|rfl|rfl)
   all_goals first|exact absurd a (by decide)|exact absurd rfl b
  grind
 rw[LA h]
theorem Sy(s:List UInt8):wtS (aE s)=wtS s:=by simp only[wtS,aE,aeH];rw[show(wtB∘qw)=wtB from funext ack]
theorem aco(i n:Nat)(c:UInt8):wtB c<=(wrB i n c).length:=by
 unfold wtB wrB
 grind
theorem Uo(n:Nat):∀(s:List UInt8) (i:Nat),wtS s<=(wrL n i s).length
 |[],_=>by simp[wtS]
 |c::s,i=>by have a:=Uo n s (i+1);have b:=aco i n c;simp only[wrL,aez,wtS,aex,agl]at a⊢;omega
theorem acq{i n:Nat}(a:i≠0)(b:c≠32):(wrB i n c).length=wtB c:=by
 unfold wtB wrB
 grind
theorem acp{i n:Nat}(b:i≠0)(a:i+1≠n):(wrB i n 32).length=wtB 32:=by
 have e:wrB i n 32=[32]:=by unfold wrB;simp[*]
 rw[e];decide
theorem X9(n:Nat):∀(s:List UInt8) (i:Nat),i≠0->n=i+s.length->s.getLast?≠some 32->(wrL n i s).length=wtS s
 |[],_,_,_,_=>by simp[wrL,wtS]
 | c::s,i,hi,hn,hl=>by
   have d:s.getLast?≠some 32:=by grind
   have b:=X9 n s (i+1) ahd (by simp at hn;omega) d;have f:(wrB i n c).length=wtB c:=by
    by_cases a:c=32
    .subst a;refine acp hi λe=>?_
     simp_all
    .exact acq hi a
   rw[wrL,aez,b,f];rfl
theorem X7(s:List UInt8):wtS s<=(kg s).length:=Uo _ _ _
theorem Um(s:List UInt8):wtS (35::s)+1<=(kg (35::s)).length:=by
 have a:=Uo (s.length+1) s 1;have e:wrB 0 (s.length+1) 35=[92,35]:=by rfl
 show _<=(wrB 0 (s.length+1) 35++wrL (s.length+1) 1 s).length;rw[e];have:wtB 35=1:=by decide
 simp only[wtS,aex,agl,aez,aeB,aeY]at a⊢;omega
theorem X6(e:c≠32)(f:(c::s).getLast?≠some 32):(kg (c::s)).length=wtS (c::s)+(if c=35 then 1 else 0):=by
 have a:s.getLast?≠some 32:=by grind
 have b:=X9 (s.length+1) s 1 ahd ahd a;show(wrB 0 (s.length+1) c++wrL (s.length+1) 1 s).length=_;rw[aez,b];have h4:(wrB 0 (s.length+1) c).length=wtB c+(if c=35 then 1 else 0):=by
  unfold wtB wrB;by_cases d:c=0;simp[*]
  grind
 rw[h4];simp[wtS];omega
theorem aat(b:List UInt8)(c:UInt8):wtS (aK b c)<=wtS b+wtB c:=by unfold aK;split;omega;rw[VC];simp[wtS]
theorem RG:∀(s b:List UInt8),wtS (s.foldl aK b)<=wtS b+wtS s
 |[],b=>by simp[wtS]
 |c::s,b=>by have a:=RG s (aK b c);have d:=aat b c;simp only[aft,wtS,aex,agl]at a d⊢;omega
theorem VB(b:List UInt8):wtS (eA b)<=wtS b:=by rcases af6 b with rfl|⟨d,c,rfl⟩;simp[eA];rw[agE,qB];split;rw[VC];omega;omega
theorem Mq:∀(s:List UInt8) (x:UInt8) (b:List UInt8),∃t,s.foldl aK (x::b)=x::t
 |[],x,b=>⟨b,rfl⟩
 | c::s,x,b=>by
   rw[aft,aK];split
   .exact Mq s x b
   .exact Mq s x (b++[c])
theorem aau(c:UInt8):1<=wtB c:=by
 unfold wtB
 grind
theorem UV(s:List UInt8):(bC s).getLast?≠some 32:=by
 have h:=Ma (Mf (aE s));have e:eA (bC s)=bC s:=h.2;intro a;rcases af6 (bC s)with q|⟨d,c,q⟩;simp_all;rw[q,agE]at e a;rw[qB,if_pos (by simpa using a)]at e
 grind
theorem U2(h:bC s=c::t):c≠32:=by
 have e:bL (bC s)=bC s:=(Ma (Mf (aE s))).1;rw[h]at e;rintro rfl;have:=Pm t;have a:bL (32::t)=t.foldl aK []:=rfl;rw[a]at e;have:=congrArg List.length e;have b:(t.foldl aK []).length<=t.length:=Pm t
 grind
theorem Wz(s:List UInt8):(kg (bC s)).length<=(kg s).length:=by
 have w:=X7 s;have z:wtS (bC s)<=wtS s:=by have k:=VB (bL (aE s));have o:=RG (aE s) [];have p:=Sy s;have h4:wtS (bL (aE s))=wtS ((aE s).foldl aK []):=rfl;have r:wtS ([]:List UInt8)=0:=rfl;show wtS (eA (bL (aE s)))<=_;omega
 rcases hp:bC s with _|⟨c,t⟩;simp[kg,wrL];have i:=UV s;rw[hp]at i z;rw[X6 (U2 hp) i];split;rename_i f;subst f;rcases s with _|⟨x,s⟩;have:bC []=[]:=rfl;simp_all;by_cases g:x=35;subst g;have:=Um s;omega;by_cases a:x=32;subst a;have e:bC (32::s)=bC s:=rfl;have k:=VB (bL (aE s));have o:=RG (aE s) [];have p:=Sy s;have h4:wtS (bL (aE s))=wtS ((aE s).foldl aK []):=rfl;have r:wtS ([]:List UInt8)=0:=rfl;have j:wtS (bC s)=wtS (eA (bL (aE s))):=rfl;rw[e]at hp;rw[hp]at j;have B:wtS (32::s)=wtB 32+wtS s:=by simp[wtS]
 have A:=aau 32;omega;exfalso;have b:¬(qw x=32):=by
  intro q;have:=jy x;rw[q]at this;apply a;have:x.toNat=32:=by grind
  exact UInt8.toNat.inj this
 have h:¬(qw x=35):=by
  intro q;have:=jy x;rw[q]at this;apply g;have:x.toNat=35:=by grind
  exact UInt8.toNat.inj this
 have m:aE (x::s)=qw x::aE s:=rfl;obtain⟨u,v⟩:=Mq (aE s) (qw x) [];have n:bL (aE (x::s))=qw x::u:=by rw[m,<- v];show(aE s).foldl aK (aK [] (qw x))=_;rw[aK,if_neg (λq=>b q.1)];rfl
 have l:eA (qw x::u)=35::t:=by rw[<- n];exact hp
 rcases af6 u with rfl|⟨d,y,rfl⟩;have:eA ([]++[qw x])=[]++[qw x]:=by rw[qB,if_neg b]
 simp_all;rw[agE,<- ae6,qB]at l
 grind
 omega
theorem nu(xs:List (List UInt8))(c:UInt8):(Lib.join xs [c]).length+1=(xs.map List.length).sum+xs.length+(if xs=[]then 1 else 0):=by
 rcases xs with _|⟨x,xs⟩;rfl;rw[PH,if_neg ahe];have:(xs.flatMap λy=>[c]++y).length=(xs.map List.length).sum+xs.length:=by
  induction xs with
  |nil=>rfl
  |cons y l ih=>simp only[afe,aez,ih,aex,agl,aeB,aeY];omega
 grind
theorem Uu{α:Type}{f g:α->Nat}:∀l:List α,(∀a∈l,f a<=g a)->(l.map f).sum<=(l.map g).sum
 |[],_=>aek _
 | a::l,h=>by
   have c:=Uu l λx b=>h x (by simp[b])
   grind
theorem YS{l m:List Nat}(h:l.Perm m):l.sum=m.sum:=by grind
theorem SQ(r:Rdn):(cE true r).length<=(cE false r).length:=by
 have b:(dU (r.map (avT true))).Perm (r.map (avT true)):=afN _ _;have d:=nu (dU (r.map (avT true))) 43;have e:=nu (r.map (avT false)) 43;have f:((dU (r.map (avT true))).map List.length).sum=((r.map (avT true)).map List.length).sum:=YS (b.map _);have h4:(dU (r.map (avT true))).length=r.length:=by rw[b.length_eq];simp
 have g:((r.map (avT true)).map List.length).sum<=((r.map (avT false)).map List.length).sum:=by
  rw[aeH,aeH];refine Uu r λa _=>?_
  have:=Wz a.2;simp only[agq,avT,if_true,aeE,if_false,aez,aeB,aeY];simp only[aE,aeu];omega
 have c:(if dU (r.map (avT true))=[]then 1 else 0)=(if r.map (avT false)=[]then 1 else 0):=by grind
 simp only[cE,if_true,aeE,if_false]
 grind
theorem SG(d:List Rdn):(aN true d).length<=(aN false d).length:=by
 have a:=nu (d.map (cE true)) 44;have c:=nu (d.map (cE false)) 44;have e:((d.map (cE true)).map List.length).sum<=((d.map (cE false)).map List.length).sum:=by rw[aeH,aeH];exact Uu d λr _=>SQ r
 have b:(if d.map (cE true)=[]then 1 else 0)=(if d.map (cE false)=[]then 1 else 0):=by simp
 rw[b]at a;simp only[aeu]at a c;unfold aN;omega
theorem WK{xs d:List (List UInt8)}(h:xs.Perm d):dU xs=dU d:=by
 have f:∀e:List (List UInt8),(dU e).Pairwise λx y=>x<=y:=λe=>by
  have:=agQ (le:=λx y:List UInt8=>decide (x<=y)) (λa b c g i=>by
   simp only[decide_eq_true_eq]at *;exact List.le_trans g i) (λa b=>by
   simp only[ae4,decide_eq_true_eq];exact List.le_total a b) e
  exact this.imp λh=>by simpa using h
 refine ag3 (le:=λx y=>x<=y) (λa b _ _=>List.le_antisymm) (f xs) (f d) ?_;exact(afN _ _).trans (h.trans (afN _ _).symm)
theorem UC(r:Rdn):cE true (sh r)=cE true r:=by simp only[cE,if_true];congr 1;refine WK ?_;refine((Pp r).map _).trans ?_;rw[aeH];rw[show(avT true∘GY)=avT true from funext λa=>by simp only[agq,abI,W4]]
abbrev Pth:=List (List UInt8)
variable {p:Pth}
abbrev INm:=Int×Pth
def aP(l:List INm)(p:Pth):Nat:=(l.filter λm=>decide (m.2≠[]/\m.2.tail=p)).length
structure sJ(suf:Pth)(l:List INm):Prop where
 sne:suf≠[]
 nd:(l.map (·.2)).Nodup
 ids:(l.map (·.1)).Nodup
 un:∀m∈l,suf <:+ m.2
 par:∀m∈l,m.2=suf\/∃k∈l,k.2=m.2.tail
theorem sJ.nil{suf:Pth}(h:suf≠[]):sJ suf []:=⟨h,ahe,ahe,λ_ h=>absurd h afq,λ_ h=>absurd h afq⟩
theorem bO{α β:Type}{f:α->β}:∀{l:List α},(l.map f).Nodup->∀{a b:α},a∈l->b∈l->f a=f b->a=b
 |[],_,a,_,h,_,_=>by cases h
 | x::l,h,a,b,ha,hb,e=>by
   rw[aex,aff]at h;rcases aeJ.1 ha with i|d<;>rcases aeJ.1 hb with g|c
   .simp[*]
   .grind
   .simp_all
   .exact bO h.2 d c e
theorem yG{α β:Type}{f:α->β}:∀{l:List α},(l.map f).Nodup->l.Nodup
 |[],_=>agd
 |x::l,h=>by rw[aex,aff]at h;exact aff.2 ⟨λa=>h.1 (ael.2 ⟨x,a,rfl⟩),yG h.2⟩
theorem sJ.byP{suf:Pth}{l:List INm}(h:sJ suf l){a b:INm}(c:a∈l)(d:b∈l)(e:a.2=b.2):a=b:=bO h.nd c d e
theorem sJ.byI{suf:Pth}{l:List INm}(h:sJ suf l){a b:INm}(c:a∈l)(d:b∈l)(e:a.1=b.1):a=b:=bO h.ids c d e
theorem sJ.ne{suf:Pth}{l:List INm}(h:sJ suf l){m:INm}(a:m∈l):m.2≠[]:=λe=>h.sne (by have:=h.un m a;rw[e]at this;exact List.suffix_nil.1 this)
theorem sJ.anc{suf:Pth}{l:List INm}(h:sJ suf l):∀(n:Nat) (k:INm) (y x:Pth),y.length=n->k∈l->k.2=y++x->suf <:+ x->∃m∈l,m.2=x
 |0,k,y,x,hy,hk,e,_=>⟨k,hk,by rw[e,List.eq_nil_of_length_eq_zero hy];rfl⟩
 | n+1,k,y,x,hy,hk,e,hs=>by
   obtain⟨a,b,rfl⟩:∃a b,y=a::b:=by
    cases y with
    |nil=>simp at hy
    |cons a b=>exact⟨a,b,rfl⟩
   rcases h.par k hk with c|⟨p,d,c⟩
   .have h1:=hs.length_le
    grind
   .rw[e]at c;exact h.anc n p b x (by simpa using hy) d c hs
theorem sJ.ancS{suf:Pth}{l:List INm}(h:sJ suf l){k:INm}{x:Pth}(b:k∈l)(c:x <:+ k.2)(a:suf <:+ x):∃m∈l,m.2=x:=by obtain⟨y,e⟩:=c;exact h.anc y.length k y x rfl b e.symm a
theorem sJ.added{suf:Pth}{l:List INm}(h:sJ suf l)(hid:∀m∈l,m.1≠id)(j:∀m∈l,m.2≠p)(g:p=suf\/∃k∈l,k.2=p.tail):
  sJ suf (l++[(id,p)])/\aP (l++[(id,p)]) p=0/\∀q,aP (l++[(id,p)]) q=aP l q+if p.tail=q then 1 else 0:=by
 have b:suf <:+ p:=by rcases g with rfl|⟨k,c,e⟩;simp;have:=h.un k c;rw[e]at this;exact this.trans (af8 p)
 have d:p≠[]:=λe=>h.sne (by rw[e]at b;exact List.suffix_nil.1 b)
 have c:∀q,aP (l++[(id,p)]) q=aP l q+if p.tail=q then 1 else 0:=λq=>by
  unfold aP
  grind
 refine⟨⟨h.sne,?_,?_,?_,?_⟩,?_,c⟩;rw[aeD,afQ];refine⟨h.nd,ahe,?_⟩
 grind
 rw[aeD,afQ];refine⟨h.ids,ahe,?_⟩
 grind
 intro m a;rcases aen.1 a with a|a;exact h.un m a;simp_all;intro m a;rcases aen.1 a with a|a;rcases h.par m a with e|⟨k,c,e⟩;simp[*]
 grind
 rw[aeG.1 a];rcases g with e|⟨k,c,e⟩;simp[*]
 grind
 rw[c p];have i:¬p.tail=p:=λe=>by
  have:=congrArg List.length e
  grind
 rw[if_neg i];have:aP l p=0:=by
  unfold aP;rw[ae2,List.filter_eq_nil_iff];intro m a f;simp only[decide_eq_true_eq]at f;rcases h.par m a with e|⟨k,c,e⟩;have:=b.length_le;rw[<- f.2,e,af9]at this;have:=afa.2 h.sne;omega
  grind
 omega
theorem sJ.deleted{suf:Pth}{l:List INm}(h:sJ suf l)(b:(id,p)∈l)(f:aP l p=0):
  sJ suf (l.filter λm=>decide (m.1≠id))/\∀q,aP (l.filter λm=>decide (m.1≠id)) q+(if p.tail=q then 1 else 0)=aP l q:=by
 have sub:∀m∈l.filter (λm=>decide (m.1≠id)),m∈l/\m.1≠id:=λm b=>by simpa using ae0.1 b
 refine⟨⟨h.sne,(List.filter_sublist.map _).nodup h.nd,(List.filter_sublist.map _).nodup h.ids,λm b=>h.un m (sub m b).1,λm g=>?_⟩,λq=>?_⟩;obtain⟨c,o⟩:=sub m g;rcases h.par m c with e|⟨k,i,e⟩;simp[*];refine .inr ⟨k,?_,e⟩;simp only[ae0,decide_eq_true_eq];refine⟨i,λn=>?_⟩;have:k=(id,p):=h.byI i b n;subst this;unfold aP at f;rw[ae2,List.filter_eq_nil_iff]at f;exact f m c (by simp only[decide_eq_true_eq];exact⟨h.ne c,e.symm⟩);have key:∀l:List INm,(l.map (·.1)).Nodup->(id,p)∈l->p≠[]->aP (l.filter λm=>decide (m.1≠id)) q+(if p.tail=q then 1 else 0)=aP l q:=by
  intro l;induction l with
  |nil=>intro _ h;cases h
  | cons a l ih =>
    intro j b d;rw[aex,aff]at j;rcases aeJ.1 b with rfl|b
    .have:l.filter (λm=>decide (m.1≠id))=l:=List.filter_eq_self.2 λm b=>by grind
     unfold aP
     grind
    .have:=ih j.2 b d;unfold aP at this⊢
     grind
 exact key l h.ids b (h.ne b)
def ren(p q x:Pth):Pth:=if p <:+ x then x.take (x.length-p.length)++q else x
theorem gf(p q y:Pth):ren p q (y++p)=y++q:=by unfold ren;simp
theorem fu{q x:Pth}(h:¬p <:+ x):ren p q x=x:=by unfold ren;rw[if_neg h]
theorem P7{α:Type}{f g:α->Bool}{a:α}:∀{l:List α},l.Nodup->a∈l->(∀k∈l,k≠a->f k=g k)->(l.filter f).length+(if g a=true then 1 else 0)=(l.filter g).length+(if f a=true then 1 else 0)
 |[],_,h,_=>by cases h
 | x::l,hn,hm,he=>by
   obtain⟨c,d⟩:=aff.1 hn;by_cases i:x=a
   .subst i;have:l.filter f=l.filter g:=List.filter_congr λk b=>he k (by simp[b]) λe=>c (e▸b)
    grind
   .have hm':a∈l:=by grind
    have j:=P7 d hm' λk b=>he k (by simp[b])
    grind
theorem sJ.moved{suf:Pth}{l:List INm}(h:sJ suf l){q:Pth}(B:(id,p)∈l)(L:p≠suf)(R:q≠[])(G:¬p <:+ q.tail)(H:∃k∈l,k.2=q.tail)(O:∀m∈l,m.2=q->m.1=id):
  sJ suf (l.map λm=>(m.1,ren p q m.2))/\∀m∈l,(aP (l.map λm=>(m.1,ren p q m.2)) (ren p q m.2):Int)=aP l m.2+(if m.2=q.tail then 1 else 0)-(if m.2=p.tail then 1 else 0):=by
 have F:suf <:+ q:=by obtain⟨k,i,e⟩:=H;have:=h.un k i;rw[e]at this;exact this.trans (af8 q)
 have P:=h.un _ B;have s:=h.ne B;have M:∀k∈l,q <:+ k.2->p <:+ k.2:=λk i c=>by obtain⟨m,n,e⟩:=h.ancS i c F;have:m=(id,p):=h.byI n B (O m n e);simp_all
 have inj:∀a∈l,∀b∈l,ren p q a.2=ren p q b.2->a=b:=λa T b E e=>by
  by_cases J:p <:+ a.2<;>by_cases K:p <:+ b.2;obtain⟨y,w⟩:=J;obtain⟨z,u⟩:=K;rw[<- w,<- u,gf,gf]at e;exact h.byP T E (by rw[<- w,<- u,List.append_cancel_right e]);obtain⟨y,w⟩:=J;rw[<- w,gf,fu K]at e
  grind
  obtain⟨z,u⟩:=K;rw[<- u,gf,fu J]at e
  grind
  rw[fu J,fu K]at e;exact h.byP T E e
 have r:∀k∈l,p <:+ k.2->∃j∈l,j.2=k.2.tail:=λk i c=>by rcases h.par k i with e|e;rw[e]at c;exact absurd (c.eq_of_length_le P.length_le) L;omega
 have A:∀y:Pth,y≠[]->(y++q).tail=y.tail++q/\(y++p).tail=y.tail++p:=λy t=>by simp[*]
 have I:l.Nodup:=yG h.ids;refine⟨⟨h.sne,?_,by rw[aeH];exact h.ids,?_,?_⟩,?_⟩;rw[aeH];have:∀l':List INm,(∀x∈l',x∈l)->l'.Nodup->(l'.map ((·.2)∘λm:INm=>(m.1,ren p q m.2))).Nodup:=by
  intro l';induction l' with
  |nil=>intro _ _;simp
  | cons a l' ih =>
    intro c Z;obtain⟨X,V⟩:=aff.1 Z;rw[aex,aff];refine⟨λS=>?_,ih (λx W=>c x (by simp[W])) V⟩;obtain⟨b,E,e⟩:=ael.1 S;exact X (inj b (c b (by simp[E])) a (c a ahe) e▸E)
 exact this l (λ_ h=>h) I;intro m n;obtain⟨k,i,rfl⟩:=ael.1 n;simp only;by_cases c:p <:+ k.2;obtain⟨y,e⟩:=c;rw[<- e,gf];exact F.trans (List.suffix_append ..);rw[fu c];exact h.un k i;intro m n;obtain⟨k,i,rfl⟩:=ael.1 n;simp only;by_cases c:p <:+ k.2;obtain⟨y,e⟩:=c;rw[<- e,gf];right;by_cases t:y=[];subst t;obtain⟨j,v,o⟩:=H;exact⟨_,ag1 v,by simp only;rw[o,fu G];rfl⟩;obtain⟨j,v,o⟩:=r k i ⟨y,e⟩;rw[<- e,(A y t).2]at o;exact⟨_,ag1 v,by simp only;rw[o,gf,(A y t).1]⟩;rw[fu c];rcases h.par k i with e|⟨j,v,o⟩;exact .inl e;refine .inr ⟨_,ag1 v,?_⟩;simp only;rw[o,fu (λS=>c (S.trans (af8 _)))];intro m N;have C:∀y:Pth,y++q≠[]:=λy e=>R (List.append_eq_nil_iff.1 e).2
 have w:aP (l.map λm=>(m.1,ren p q m.2)) (ren p q m.2)=(l.filter λk=>decide (ren p q k.2≠[]/\(ren p q k.2).tail=ren p q m.2)).length:=by unfold aP;rw[List.filter_map,aeu];rfl
 have hd:=P7 (f:=λk:INm=>decide (ren p q k.2≠[]/\(ren p q k.2).tail=ren p q m.2)) (g:=λk:INm=>decide (k.2≠[]/\k.2.tail=m.2)) I B λk i Q=>by
  congr 1;apply propext;by_cases c:p <:+ k.2;obtain⟨j,v,o⟩:=r k i c;obtain⟨y,e⟩:=c;have t:y≠[]:=λu=>by subst u;exact Q (h.byP i B e.symm)
  rw[<- e]at o⊢;rw[gf,(A y t).1,(A y t).2];rw[(A y t).2]at o;constructor;rintro⟨_,d⟩;refine⟨λU=>s (List.append_eq_nil_iff.1 U).2,?_⟩;have:j=m:=inj j v m N (by rw[o,gf,d]);rw[<- this,o];rintro⟨_,d⟩;exact⟨C _,by rw[<- d,gf]⟩;rw[fu c];by_cases hr:p <:+ m.2;obtain⟨y,e⟩:=hr;rw[<- e,gf];constructor;rintro⟨_,d⟩;exact absurd (M k i (List.IsSuffix.trans (⟨y,d.symm⟩:q <:+ k.2.tail) (af8 _))) c;rintro⟨_,d⟩;exact absurd (List.IsSuffix.trans (⟨y,d.symm⟩:p <:+ k.2.tail) (af8 _)) c;rw[fu hr]
 rw[<- w]at hd;have Y:decide (ren p q (id,p).2≠[]/\(ren p q (id,p).2).tail=ren p q m.2)=decide (m.2=q.tail):=by have u:ren p q p=q:=(by have:=gf p q [];simpa using this);simp only[u];congr 1;apply propext;by_cases hr:p <:+ m.2;obtain⟨y,e⟩:=hr;rw[<- e,gf];constructor;rintro⟨_,d⟩;have:=congrArg List.length d;rw[af9,aez]at this;have:=afa.2 R;omega;intro d;exact absurd ⟨y,d⟩ G;rw[fu hr];exact⟨λd=>d.2.symm,λd=>⟨R,d.symm⟩⟩
 have g1:decide ((id,p).2≠[]/\(id,p).2.tail=m.2)=decide (m.2=p.tail):=by congr 1;apply propext;exact⟨λd=>d.2.symm,λd=>⟨s,d.symm⟩⟩
 simp only[Y,g1,decide_eq_true_eq]at hd;have D:aP (l.map λm=>(m.1,ren p q m.2)) (ren p q m.2)+(if m.2=p.tail then 1 else 0)=aP l m.2+(if m.2=q.tail then 1 else 0):=hd;clear hd;revert D;split<;>split<;>intro D<;>omega
def NK(d:List Rdn):Pth:=d.map (cE true)
def OkD(d:List Rdn):Prop:=(prS d).2=0
instance (d:List Rdn):Decidable (OkD d):=inferInstanceAs (Decidable (_=_))
theorem Qa:∀(d:List Rdn) (i:Nat),i<=32->(nH i d=0↔i+d.length<=32/\∀r∈d,r≠[]/\ez [] r=0)
 |[],i,h=>by simp[nH,h]
 | r::d,i,h=>by
   unfold nH;by_cases b:i=32
   .grind
   rw[if_neg b];by_cases c:r=[]
   .simp[*]
   rw[if_neg c];by_cases a:ez [] r=0
   .rw[if_neg (by simpa using a),Qa d (i+1) ahd]
    grind
   simp[*]
theorem Lx(d:List Rdn):OkD d↔d.length<=32/\(∀r∈d,r≠[]/\ez [] r=0)/\LD d=false/\(aN false d).length<=4096:=by
 have a:=Qa d 0 ahd;unfold OkD prS
 grind
theorem OkD.nil:OkD []:=(Lx []).2 ⟨ahe,ahe,by rfl,by decide⟩
theorem Yk(k:Bool)(c d:List Rdn):(aN k d).length<=(aN k (c++d)).length:=by
 have a:=nu (d.map (cE k)) 44;have b:=nu ((c++d).map (cE k)) 44;unfold aN
 grind
theorem OkD.app{c:List Rdn}(h:OkD (c++d)):OkD d:=by rw[Lx]at h⊢;obtain⟨a,b,e,h4⟩:=h;refine⟨by simp at a;omega,λr hr=>b r (by simp[hr]),?_,aeR (Yk _ _ _) h4⟩;unfold LD at e⊢;simp_all
theorem OkD.drop(h:OkD d)(n:Nat):OkD (d.drop n):=OkD.app (c:=d.take n) (by rw[afH];exact h)
theorem OkD.tail(h:OkD d):OkD d.tail:=by rw[<- List.drop_one];exact h.drop 1
theorem OkD.len(h:OkD d):d.length<=32:=((Lx d).1 h).1
theorem qv(h:OkD d):RW d=(aN true d,0):=by unfold RW;rw[if_neg (by simpa[OkD]using h)]
theorem RV(h:¬OkD d):(RW d).2≠0:=by unfold RW;rw[if_pos (show(prS d).2≠0 from h)];exact h
theorem OkD.plain(h:OkD d):kH (aN true d)=(yF d,0):=by obtain⟨c,a,e,h4⟩:=(Lx d).1 h;have b:nH 0 d=0:=(Qa d 0 ahd).2 ⟨ahd,a⟩;have:=SG d;rw[<- Po d];exact Tc (P9 d 0 b) (by rw[Po];omega)
theorem Ug(d:List Rdn):NK (yF d)=NK d:=by unfold NK yF;rw[aeH];rw[show(cE true∘sh)=cE true from funext UC]
theorem l9{e:List Rdn}(hd:OkD d)(b:OkD e):aN true d=aN true e↔NK d=NK e:=by
 constructor;intro h;have a:=hd.plain;rw[h,b.plain]at a;have:yF e=yF d:=by injection a
 rw[<- Ug d,<- this,Ug];intro h;unfold NK at h;unfold aN;rw[h]
theorem bv(d:List Rdn):(NK d).length=d.length:=by simp[NK]
theorem Vx :NK d=[]↔d=[]:=by simp[NK]
theorem Wu(d:List Rdn)(n:Nat):NK (d.drop n)=(NK d).drop n:=by simp[NK]
theorem L5(d:List Rdn):NK d.tail=(NK d).tail:=by simp[NK]
def gp(d b:List Rdn):Bool:=decide (OkD d)&&decide (OkD b)&&decide (b.length<=d.length)&&decide (aN true (d.drop (d.length-b.length))=aN true b)
theorem de{b:List Rdn}:gp d b=true↔OkD d/\OkD b/\NK b <:+ NK d:=by
 unfold gp;simp only[aeq,decide_eq_true_eq];constructor;rintro⟨⟨⟨a,c⟩,f⟩,h4⟩;refine⟨a,c,?_⟩;rw[l9 (a.drop _) c,Wu]at h4;rw[<- h4];exact List.drop_suffix _ _;rintro⟨a,c,f⟩;have g:=f.length_le;rw[bv,bv]at g;rw[l9 (a.drop _) c,Wu];obtain⟨y,e⟩:=f;have:y.length=d.length-b.length:=by have:=congrArg List.length e;rw[aez,bv,bv]at this;omega
 grind
def Mb(a b:List Rdn):Bool:=decide (a.length=b.length)&&gp a b
theorem SP{a b:List Rdn}:Mb a b=true↔OkD a/\OkD b/\NK a=NK b:=by unfold Mb;rw[aeq,decide_eq_true_eq,de];constructor;rintro⟨d,e,c,h4⟩;exact⟨e,c,(h4.eq_of_length (by rw[bv,bv,d])).symm⟩;rintro⟨d,e,c⟩;exact⟨by rw[<- bv,c,bv],d,e,by rw[c];exact List.suffix_refl _⟩
structure Ent(α:Type)where
 id:Int
 nm:List Rdn
 av:α
variable {α:Type}
def cV(l:List (Ent α)):List INm:=l.map λx=>(x.id,NK x.nm)
structure TOk(suf:List Rdn)(last:Int)(l:List (Ent α)):Prop where
 sok:OkD suf
 ok:∀x∈l,OkD x.nm
 inv:sJ (NK suf) (cV l)
 ids:∀x∈l,1<=x.id/\x.id<=last
theorem fK{l:List (Ent α)}{x:Ent α}(h:x∈l):(x.id,NK x.nm)∈cV l:=ael.2 ⟨x,h,rfl⟩
theorem TOk.byN{last:Int}{l:List (Ent α)}(h:TOk suf last l){a b:Ent α}(d:a∈l)(f:b∈l)(e:NK a.nm=NK b.nm):a=b:=by have c:=h.inv.nd;unfold cV at c;rw[aeH]at c;exact bO c d f e
theorem TOk.byI{last:Int}{l:List (Ent α)}(h:TOk suf last l){a b:Ent α}(d:a∈l)(f:b∈l)(e:a.id=b.id):a=b:=by have c:=h.inv.ids;unfold cV at c;rw[aeH]at c;exact bO c d f e
def atE(l:List (Ent α))(d:List Rdn):Option (Ent α):=if OkD d then l.find? (λx=>decide (NK x.nm=NK d))else none
def aO(l:List (Ent α))(d:List Rdn):Int:=match atE l d with|some x=>x.id|none=>0
def DU(l:List (Ent α))(id:Int):Option (Ent α):=l.find? (λx=>decide (x.id=id))
def iU(l:List (Ent α))(id:Int):Nat:=match DU l id with|some x=>aP (cV l) (NK x.nm)|none=>0
theorem cc{l:List (Ent α)}{x:Ent α}(h:atE l d=some x):OkD d/\x∈l/\NK x.nm=NK d:=by
 unfold atE at h
 grind
theorem TOk.at{last:Int}{l:List (Ent α)}(h:TOk suf last l){x:Ent α}(a:x∈l)(hd:OkD d)(e:NK d=NK x.nm):atE l d=some x:=by
 unfold atE;rw[if_pos hd];cases hf:l.find? (λx=>decide (NK x.nm=NK d))with
 |none=>exact absurd e.symm (by simpa using afr.1 hf x a)
 |some y=>rw[h.byN (afK hf) a (by rw[<- e];simpa using afL hf)]
theorem yy{l:List (Ent α)}:atE l d=none↔(OkD d->∀x∈l,NK x.nm≠NK d):=by unfold atE;simp
theorem XF{l:List (Ent α)}{x:Ent α}(h:DU l id=some x):x∈l/\x.id=id:=⟨afK h,by simpa using afL h⟩
theorem TOk.ent{last:Int}{l:List (Ent α)}(h:TOk suf last l){x:Ent α}(a:x∈l):DU l x.id=some x:=by
 unfold DU;cases hf:l.find? (λy=>decide (y.id=x.id))with
 |none=>exact absurd (afr.1 hf x a) ahe
 |some y=>rw[h.byI (afK hf) a (by simpa using afL hf)]
theorem TOk.find0{last:Int}{l:List (Ent α)}(h:TOk suf last l):aO l d=0↔atE l d=none:=by
 unfold aO;cases hf:atE l d with
 |none=>simp
 | some x =>
   have:=h.ids x (cc hf).2.1
   grind
theorem TOk.kids{last:Int}{l:List (Ent α)}(h:TOk suf last l){x:Ent α}(i:x∈l):aP (cV l) (NK x.nm)=(l.filter λk=>decide (k.nm.length=x.nm.length+1)&&gp k.nm x.nm).length:=by
 unfold aP cV;rw[List.filter_map,aeu];congr 1;refine List.filter_congr λk d=>?_
 rw[Bool.eq_iff_iff];simp only[agq,aeq,decide_eq_true_eq,de];constructor;rintro⟨c,b⟩;have f:=congrArg List.length b;have j:=afa.2 c;rw[af9,bv,bv]at f;rw[bv]at j;exact⟨ahd,h.ok k d,h.ok x i,by rw[<- b];exact af8 _⟩;rintro⟨c,_,_,b⟩;obtain⟨y,e⟩:=b;have g:=congrArg List.length e;rw[aez,bv,bv]at g;obtain⟨a,rfl⟩:∃a,y=[a]:=List.length_eq_one_iff.1 ahd
 grind
open Go Go.Sort
def cpS(a b:List UInt8):Int:=if a<b then -1 else if b<a then 1 else 0
def cpP:Pth->Pth->Int
 |[],[]=>0
 |[],_::_=>-1
 |_::_,[]=>1
 |x::a,y::b=>if cpS x y≠0 then cpS x y else cpP a b
theorem ZY(a:List UInt8):¬a<a:=List.lt_irrefl a
theorem abB{a:List UInt8}(h:a<b):¬b<a:=List.lt_asymm h
theorem ZX{a c:List UInt8}(d:a<b)(e:b<c):a<c:=List.lt_trans d e
theorem ac2{a:List UInt8}(c:¬a<b)(d:¬b<a):a=b:=List.le_antisymm (List.not_lt.1 d) (List.not_lt.1 c)
theorem yr(a b:List UInt8):(a<b/\cpS a b=-1)\/(a=b/\cpS a b=0)\/(b<a/\cpS a b=1):=by
 unfold cpS
 grind
theorem ZR(a:List UInt8):cpS a a=0:=by unfold cpS;rw[if_neg (ZY a),if_neg (ZY a)]
theorem ZS{a:List UInt8}(h:a<b):cpS a b=-1:=if_pos h
theorem ac0{a:List UInt8}(h:b<a):cpS a b=1:=by unfold cpS;rw[if_neg (abB h),if_pos h]
theorem TW:∀(a b:Pth),cpP b a=- cpP a b
 |[],[]=>rfl
 |[],_::_=>rfl
 |_::_,[]=>rfl
 | x::a,y::b=>by
   unfold cpP;rcases yr x y with⟨h,e⟩|⟨h,e⟩|⟨h,e⟩
   .rw[e,ac0 h];rfl
   .subst h;rw[e];exact TW a b
   .rw[e,ZS h];rfl
theorem TU:∀{a b:Pth},cpP a b=0->a=b
 |[],[],_=>rfl
 |[],_::_,h=>by simp[cpP]at h
 |_::_,[],h=>by simp[cpP]at h
 | x::a,y::b,h=>by
   unfold cpP at h;rcases yr x y with⟨c,e⟩|⟨c,e⟩|⟨c,e⟩
   .omega
   .subst c;rw[e]at h;rw[TU h]
   omega
theorem TV:∀a:Pth,cpP a a=0
 |[]=>rfl
 |x::a=>by unfold cpP;rw[ZR];simpa using TV a
theorem Rw:∀{a b c:Pth},cpP a b<0->cpP b c<0->cpP a c<0
 |[],[],_,h,_=>by exact absurd h (by decide)
 |[],_::_,[],_,h=>by exact absurd h (by show ¬(1:Int)<0;decide)
 |[],_::_,_::_,_,_=>by show(-1:Int)<0;decide
 |_::_,[],_,h,_=>by exact absurd h (by show ¬(1:Int)<0;decide)
 |_::_,_::_,[],_,h=>by exact absurd h (by show ¬(1:Int)<0;decide)
 | x::a,y::b,z::c,h1,h2=>by
   unfold cpP at h1 h2⊢;rcases yr x y with⟨g,f⟩|⟨g,f⟩|⟨g,f⟩
   .rcases yr y z with⟨d,e⟩|⟨d,e⟩|⟨d,e⟩
    .rw[ZS (ZX g d)];simp
    .simp_all
    omega
   .subst g;rcases yr x z with⟨d,e⟩|⟨d,e⟩|⟨d,e⟩
    .omega
    .subst d;rw[f]at h1 h2;rw[f];exact Rw h1 h2
    omega
   omega
def pLt(a b:Pth):Bool:=decide (cpP a b<0)
theorem V1(a:Pth):pLt a a=false:=by unfold pLt;rw[TV];rfl
theorem Mg{a b c:Pth}(d:pLt a b=true)(e:pLt b c=true):pLt a c=true:=by unfold pLt at *;rw[decide_eq_true_eq]at *;exact Rw d e
theorem RT{a b:Pth}(d:pLt a b=false)(c:pLt b a=false):a=b:=by unfold pLt at *;rw[decide_eq_false_iff_not]at *;rw[TW a b]at c;exact TU ahd
theorem YX{a b:Pth}(h:pLt a b=true):pLt b a=false:=by
 cases h2:pLt b a with
 |false=>rfl
 |true=>have:=Mg h h2;rw[V1]at this;cases this
theorem Pt{a b c:Pth}(e:pLt a b=false)(d:pLt b c=false):pLt a c=false:=by
 cases h3:pLt a c with
 |false=>rfl
 | true =>
   cases h4:pLt b a with
   |true=>have:=Mg h4 h3;rw[d]at this;cases this
   |false=>have:=RT e h4;subst this;rw[d]at h3;cases h3
theorem aa3{β:Type}(f:β->Pth):SWO (λx y=>pLt (f x) (f y)):=
 ⟨λx=>V1 _,λx y z=>Mg,λx y z=>Pt⟩
variable {α:Type}
def pth(x:Ent α):Pth:=(NK x.nm).reverse
def leE(x y:Ent α):Bool := !pLt (pth y) (pth x)
def ig(a:Ent α)(s:Int)(x:Ent α):Bool:=gp x.nm a.nm&&(decide (s=2) ||decide ((x.nm.length:Int)-a.nm.length=s))
def scL(l:List (Ent α))(a:Ent α)(s:Int):List (Ent α):=(l.filter (ig a s)).mergeSort leE
def scT(l:List (Ent α))(id s:Int):List Int:=match DU l id with|none=>[]|some a=>if s<0\/2<s then[]else(scL l a s).map (·.id)
theorem RM{x y:Ent α}(h:pth x=pth y):NK x.nm=NK y.nm:=by have:=congrArg List.reverse h;simpa[pth]using this
theorem Ro(a b c:Ent α)(d:leE a b=true)(e:leE b c=true):leE a c=true:=by unfold leE at *;simp only[aeU]at *;exact Pt e d
theorem Rp(a b:Ent α):(leE a b ||leE b a)=true:=by
 unfold leE;cases h:pLt (pth b) (pth a)with
 |false=>rfl
 |true=>rw[YX h];rfl
theorem TOk.one{last:Int}{l:List (Ent α)}(h:TOk suf last l){a:Ent α}{s:Int}{m:List (Ent α)}(f:m.Perm (l.filter (ig a s)))(i:m.Pairwise λx y=>leE x y=true):m=scL l a s:=by have o:=agQ (le:=leE) (λa b c=>Ro a b c) Rp (l.filter (ig a s));have g:(scL l a s).Perm (l.filter (ig a s)):=afN _ _;refine ag3 (le:=λx y=>leE x y=true) (λx y j k d e=>?_) i o (f.trans g.symm);have p:x∈l:=(ae0.1 (f.mem_iff.1 j)).1;have n:y∈l:=(ae0.1 (g.mem_iff.1 k)).1;unfold leE at d e;simp only[aeU]at d e;exact h.byN p n (RM (RT e d))
theorem TOk.srt{last:Int}{l:List (Ent α)}(h:TOk suf last l)(a:Ent α)(s:Int){m:List (Ent α)}(d:m.Perm (l.filter (ig a s))):m.mergeSort leE=scL l a s :=
 h.one ((afN _ _).trans d) (agQ (le:=leE) (λa b c=>Ro a b c) Rp m)
theorem Zm{last:Int}{l:List (Ent α)}(h:TOk suf last l){a x:Ent α}(f:a∈l)(c:x∈l)(s:Int):ig a s x=(decide (0<=((pth x).length:Int)-(pth a).length)&&decide ((pth x).take (pth a).length=pth a)&&(decide (s=2) ||decide (((pth x).length:Int)-(pth a).length=s))):=by
 have b:∀x:Ent α,(pth x).length=x.nm.length:=λx=>by simp[pth,bv]
 unfold ig;rw[b,b];congr 1;rw[Bool.eq_iff_iff,aeq,decide_eq_true_eq,decide_eq_true_eq,de];constructor;rintro⟨_,_,y,e⟩;have d:=congrArg List.length e;rw[aez,bv,bv]at d;refine⟨ahd,?_⟩;have:pth x=pth a++y.reverse:=by unfold pth;rw[<- e,List.reverse_append]
 simp[*];rintro⟨j,g⟩;refine⟨h.ok x c,h.ok a f,?_⟩;have i:pth a <+: pth x:=by rw[<- g];exact List.take_prefix _ _
 unfold pth at i;simp_all
variable {α:Type}
def nD(n:List Rdn)(k:Nat)(tn:List Rdn):List Rdn:=n.take (n.length-k)++tn
def YY(l:List (Ent α))(id:Int)(tn:List Rdn):Bool:=match atE l tn with|some y=>decide (y.id≠id)|none=>false
def Z0(l:List (Ent α))(dn tn:List Rdn):Bool:=l.any λy=>gp y.nm dn && !decide (OkD (nD y.nm dn.length tn))
def Tk(suf:List Rdn)(l:List (Ent α))(id:Int)(dn tn:List Rdn):Int :=
 if Mb dn suf=true then 53 else if ¬OkD tn\/tn=[]then 34 else if gp tn.tail dn=true then 53 else if atE l tn.tail=none then 32 else if YY l id tn=true then 68 else if Z0 l dn tn=true then 34 else 0
def dd(suf:List Rdn)(l:List (Ent α))(k:Int)(dn tn:List Rdn):Int :=
 if k<1\/4<k then 1
 else if k=1 then(if ¬OkD dn then 34 else if atE l dn≠none then 68 else if Mb dn suf=false/\(dn=[]\/atE l dn.tail=none)then 32 else if 4096<=l.length then 80 else 0)
 else match atE l dn with
  |none=>32
  |some x=>if k=2 then(if aP (cV l) (NK x.nm)≠0 then 66 else 0)else if k=3 then 0 else Tk suf l x.id dn tn
def DX(l:List (Ent α))(last:Int)(dn:List Rdn)(v:α):List (Ent α):=l++[⟨last+1,dn,v⟩]
def Oo(l:List (Ent α))(id:Int):List (Ent α):=l.filter λx=>decide (x.id≠id)
def yR(l:List (Ent α))(id:Int)(v:α):List (Ent α):=l.map λx=>if x.id=id then{x with av:=v}else x
def qu(l:List (Ent α))(dn tn:List Rdn):List (Ent α):=l.map λx=>if gp x.nm dn=true then{x with nm:=nD x.nm dn.length tn}else x
def doT(suf:List Rdn)(l:List (Ent α))(last:Int)(k:Int)(dn tn:List Rdn)(v:α):List (Ent α)×Int :=
 if dd suf l k dn tn≠0 then(l,last)
 else if k=1 then(DX l last dn v,last+1)
 else if k=2 then(Oo l (aO l dn),last)
 else if k=3 then(yR l (aO l dn) v,last)
 else(yR (qu l dn tn) (aO l dn) v,last)
theorem Tj(l:List (Ent α))(last:Int)(dn:List Rdn)(v:α):cV (DX l last dn v)=cV l++[(last+1,NK dn)]:=by simp[cV,DX]
theorem Ti(l:List (Ent α))(id:Int):cV (Oo l id)=(cV l).filter λm=>decide (m.1≠id):=by unfold cV Oo;rw[List.filter_map];rfl
theorem Px(l:List (Ent α))(id:Int)(v:α):cV (yR l id v)=cV l:=by
 unfold cV yR;rw[aeH];refine afk λx _=>?_
 grind
theorem V5{n:List Rdn}(h:gp n dn=true):NK (nD n dn.length tn)=ren (NK dn) (NK tn) (NK n):=by obtain⟨_,_,a⟩:=de.1 h;unfold ren;rw[if_pos a,bv,bv];unfold nD;congr 1;simp[NK,ago]
theorem TOk.ndOf_ren{last:Int}{l:List (Ent α)}(h:TOk suf last l)(hd:OkD dn)(tn:List Rdn):cV (qu l dn tn)=(cV l).map λm=>(m.1,ren (NK dn) (NK tn) m.2):=by
 unfold cV qu;rw[aeH,aeH];refine afk λx c=>?_
 simp only[agq];by_cases a:gp x.nm dn=true;rw[if_pos a,V5 a];rw[if_neg a];rw[fu λb=>a (de.2 ⟨h.ok x c,hd,b⟩)]
theorem TOk.nil{last:Int}(h:OkD suf)(a:suf≠[]):TOk (α:=α) suf last []:=
 ⟨h,λ_ h=>absurd h afq,sJ.nil λe=>a (Vx.1 e),λ_ h=>absurd h afq⟩
theorem TOk.cha{last:Int}{l:List (Ent α)}(h:TOk suf last l)(id:Int)(v:α):TOk suf last (yR l id v):=by
 refine⟨h.sok,λx b=>?_,by rw[Px];exact h.inv,λx b=>?_⟩
 all_goals
  obtain⟨y,a,rfl⟩:=ael.1 b;split
  .first|exact h.ok y a|exact h.ids y a
  .first|exact h.ok y a|exact h.ids y a
structure ad2(suf:List Rdn)(l:List (Ent α))(dn:List Rdn):Prop where
 ok:OkD dn
 no:∀x∈l,NK x.nm≠NK dn
 par:NK dn=NK suf\/∃x∈l,NK x.nm=(NK dn).tail
theorem TOk.canA{last:Int}{l:List (Ent α)}(h:TOk suf last l)(b:dd suf l 1 dn tn=0):ad2 suf l dn/\l.length<4096:=by
 unfold dd at b;by_cases a:OkD dn;rotate_left;simp_all;by_cases c:atE l dn=none;rotate_left;simp_all;by_cases d:Mb dn suf=false/\(dn=[]\/atE l dn.tail=none);simp_all;by_cases h4:4096<=l.length;omega;refine⟨⟨a,yy.1 c a,?_⟩,ahd⟩;cases hs:Mb dn suf with
 |true=>exact .inl (SP.1 hs).2.2
 | false =>
   right;have f:¬(dn=[]\/atE l dn.tail=none):=λe=>d ⟨hs,e⟩
   cases ht:atE l dn.tail with
   |none=>exact absurd (.inr ht) f
   | some x =>
     obtain⟨_,g,e⟩:=cc ht;exact⟨x,g,by rw[e,L5]⟩
theorem TOk.add{last:Int}{l:List (Ent α)}(h:TOk suf last l)(i:0<=last)(c:ad2 suf l dn)(v:α):
  TOk suf (last+1) (DX l last dn v)/\aP (cV (DX l last dn v)) (NK dn)=0/\∀q,aP (cV (DX l last dn v)) q=aP (cV l) q+if(NK dn).tail=q then 1 else 0:=by
 obtain⟨d,f,g⟩:=h.inv.added (id:=last+1) (p:=NK dn) (λm b=>by
  obtain⟨x,a,rfl⟩:=ael.1 b;have:=h.ids x a;simp only;omega) (λm b=>by
  obtain⟨x,a,rfl⟩:=ael.1 b;exact c.no x a) (by
  rcases c.par with e|⟨x,a,e⟩;exact .inl e;exact .inr ⟨_,fK a,e⟩)
 rw[Tj];refine⟨⟨h.sok,λx a=>?_,by rw[Tj];exact d,λx a=>?_⟩,f,g⟩;rcases aen.1 a with a|a;exact h.ok x a;rw[aeG.1 a];exact c.ok;rcases aen.1 a with a|a;have:=h.ids x a;omega
 grind
theorem TOk.del{last:Int}{l:List (Ent α)}(h:TOk suf last l){x:Ent α}(e:x∈l)(b:aP (cV l) (NK x.nm)=0):
  TOk suf last (Oo l x.id)/\∀q,aP (cV (Oo l x.id)) q+(if(NK x.nm).tail=q then 1 else 0)=aP (cV l) q:=by
 obtain⟨c,d⟩:=h.inv.deleted (fK e) b;rw[Ti];refine⟨⟨h.sok,λy a=>h.ok y (ae0.1 a).1,by rw[Ti];exact c,λy a=>h.ids y (ae0.1 a).1⟩,d⟩
structure adl(suf:List Rdn)(l:List (Ent α))(x:Ent α)(dn tn:List Rdn):Prop where
 mem:x∈l
 ok:OkD dn
 nk:NK x.nm=NK dn
 tok:OkD tn
 tne:tn≠[]
 nos:NK dn≠NK suf
 nun:¬NK dn <:+ (NK tn).tail
 par:∃y∈l,NK y.nm=(NK tn).tail
 oth:∀y∈l,NK y.nm=NK tn->y=x
 all:∀y∈l,gp y.nm dn=true->OkD (nD y.nm dn.length tn)
theorem TOk.canM{last:Int}{l:List (Ent α)}(h:TOk suf last l){x:Ent α}(k:atE l dn=some x)(n:Tk suf l x.id dn tn=0):adl suf l x dn tn:=by
 obtain⟨hd,g,e⟩:=cc k;unfold Tk at n;by_cases j:Mb dn suf=true;simp_all;by_cases o:¬OkD tn\/tn=[];simp_all;have d:OkD tn:=by simp_all
 by_cases p:gp tn.tail dn=true;simp_all;by_cases h4:atE l tn.tail=none;simp_all;by_cases b:YY l x.id tn=true;simp_all;by_cases i:Z0 l dn tn=true;simp_all;refine⟨g,hd,e,d,λc=>o (.inr c),λc=>j (SP.2 ⟨hd,h.sok,c⟩),λc=>p (de.2 ⟨d.tail,hd,by rw[L5];exact c⟩),?_,λy a c=>?_,λy a q=>?_⟩;cases f:atE l tn.tail with
 |none=>exact absurd f h4
 | some y =>
   obtain⟨_,a,m⟩:=cc f;exact⟨y,a,by rw[m,L5]⟩
 have:=h.at a d c.symm;unfold YY at b;rw[this]at b;simp only[decide_eq_true_eq,ne_eq,agz]at b;exact h.byI a g b;have f:=afY.1 (by simpa[Z0]using i:(l.any λy=>gp y.nm dn && !decide (OkD (nD y.nm dn.length tn)))=false) y a;simp_all
theorem TOk.mov{last:Int}{l:List (Ent α)}(h:TOk suf last l){x:Ent α}(a:adl suf l x dn tn):
  TOk suf last (qu l dn tn)/\∀y∈l,(aP (cV (qu l dn tn)) (ren (NK dn) (NK tn) (NK y.nm)):Int)=aP (cV l) (NK y.nm)+(if NK y.nm=(NK tn).tail then 1 else 0)-(if NK y.nm=(NK dn).tail then 1 else 0):=by
 have d:(x.id,NK dn)∈cV l:=by rw[<- a.nk];exact fK a.mem
 obtain⟨f,g⟩:=h.inv.moved d a.nos (λe=>a.tne (Vx.1 e)) a.nun (by
  obtain⟨y,b,e⟩:=a.par;exact⟨_,fK b,e⟩) (λm d e=>by
  obtain⟨y,b,rfl⟩:=ael.1 d;rw[a.oth y b e])
 rw[h.ndOf_ren a.ok];refine⟨⟨h.sok,λy b=>?_,by rw[h.ndOf_ren a.ok];exact f,λy b=>?_⟩,λy b=>g _ (fK b)⟩;obtain⟨z,c,rfl⟩:=ael.1 b;split;rename_i i;exact a.all z c i;exact h.ok z c;obtain⟨z,c,rfl⟩:=ael.1 b;split;exact h.ids z c;exact h.ids z c
theorem TOk.done{last:Int}{l:List (Ent α)}(h:TOk suf last l)(g:0<=last)(k:Int)(dn tn:List Rdn)(v:α):TOk suf (doT suf l last k dn tn v).2 (doT suf l last k dn tn v).1/\last<=(doT suf l last k dn tn v).2/\(doT suf l last k dn tn v).2<=last+1/\(doT suf l last k dn tn v).1.length<=l.length+1:=by
 unfold doT;by_cases a:dd suf l k dn tn=0;rotate_left
 grind
 rw[if_neg (by simpa using a)];by_cases c:k=1;subst c;rw[if_pos rfl];exact⟨(h.add g (h.canA a).1 v).1,by simp only;omega,by simp only;omega,by simp[DX]⟩;rw[if_neg c];unfold dd at a;by_cases e:k<1\/4<k;omega;rw[if_neg e,if_neg c]at a;cases hx:atE l dn with
 |none=>rw[hx]at a;simp at a
 | some x =>
   rw[hx]at a;simp only at a;have f:aO l dn=x.id:=(by unfold aO;rw[hx]);rw[f];by_cases d:k=2
   .rw[if_pos d]at a⊢;by_cases b:aP (cV l) (NK x.nm)=0
    .exact⟨(h.del (cc hx).2.1 b).1,agF _,by simp only;omega,Nat.le_succ_of_le (agr _ _)⟩
    omega
   rw[if_neg d]at a⊢;by_cases b:k=3
   .rw[if_pos b];exact⟨h.cha _ _,agF _,by simp only;omega,by simp[yR]⟩
   rw[if_neg b]at a⊢;exact⟨(h.mov (h.canM hx a)).1.cha _ _,agF _,by simp only;omega,by simp[yR,qu]⟩
end Go.Proofs.YtajkbcmleihaoaaGreatDoor.Av
set_option maxRecDepth 100000
namespace Go.Proofs.YtajkbcmleihaoaaGreatDoor.Av
open Go
def ml:LSO:=[Aq 2]
def mj:LSO:=[Aa 3 0,AB 4 3]
def mh:LSO:=[Aq 2]
def mg:LSO:=[Aa 5 0,Ae 6 5,Ad 7 0 6,Ac 8 1 7,BI 9 50 8,Aa 2 9]
def jB:aI:=⟨10,(ag6 ml [] (.seq (ag6 mj Cc (ag8 4 (.sreg mh []))) (ag6 mg Ch .ret))),[(.tmp 2)]⟩
attribute [push_cast] ml mj mh mg
theorem DV:ahb 33=ahc jB:=ahf
def sU:LSO:=[Ab 2 0]
def sT:LSO:=[Aa 3 0,AB 4 3]
def sS:LSO:=[Ab 2 0]
def sR:LSO:=[Aa 5 0,Ae 6 5,Ad 7 1 6,Ac 8 1 7,o1 9 (.mlen (tm 8)),Aa 2 9]
def nJ:aI:=⟨10,(ag6 sU [] (.seq (ag6 sT Cc (ag8 4 (.sreg sS []))) (ag6 sR Ch .ret))),[(.tmp 2)]⟩
attribute [push_cast] sU sT sS sR
theorem Jo:ahb 25=ahc nJ:=ahf
def Hf:LSO:=[Aq 2]
def He:LSO:=[Aq 3]
def Hd:LSO:=[Aa 6 0,Af 7 6,Ab 8 0]
def Hc:LSO:=[Ap 9 8 7]
def Hb:LSO:=[Ak 10 2 6 8,Ay 11 2 10,B0 5,Ai 2 5 11]
def Ha:List (aj×Kd):=
 [Ar 12 3,Au 13 0 5,Aw 14 1 13 0 0,Au 15 1 5,Aw 16 1 15 0 0,AP 17 93 16 0 0,od 18 (.build [(.str []),(.sl [] 0 (some 0))] [(0,(1,(tm 14))),(1,(1,(tm 17)))]) .pure,
 od 19 (.bslice false 2 1 [(.str []),(.sl [] 0 (some 0))] [(0,(2,(tm 18)))]) (.read 0 0)]
def D5:List aj :=
 [⟨(some 20),(.app 1 2 40 [(.str []),(.sl [] 0 (some 0))] (tm 12) (tm 19)),none⟩,⟨(some 3),(.mv (tm 20)),none⟩]
def G9:LSO:=[Aj 21 8 1,Aa 8 21]
def G8:LSO:=[Aa 22 3,Aa 2 22]
def Gk:aI:=⟨23,(ag6 Hf [] (ag6 He [] (.seq (ag6 Hd [] (ag9 0 (ag6 Hc [] (.seq (aha 9 0) (.seq (.block 1 (ag6 Hb Cd (.dregM Ha D5 Cl))) (.sreg G9 Cc)))))) (ag6 G8 Cc .ret)))),[(.tmp 2)]⟩
attribute [push_cast] Hf He Hd Hc Hb Ha D5 G9 G8
theorem Qf:ahb 68=ahc Gk:=ahf
def oz:LSO:=[Aq 4,Aq 5]
def oy:LSO:=[Aa 7 0,AB 8 7,Aa 9 8,.grp none 9 false
 [Ah 10 9 0,Bv 11 9 10,A7 12 9 1 11,A4 13 9 1 12,Ah 14 9 1,og 15 9 false (.mget .int false .nilptr (tm 13) (tm 14)),BY 16 9 15]
 17 (tm 16)]
def ox:LSO:=[Aq 4,Aq 5]
def ow:LSO:=[Aa 18 0,Ae 19 18,Ad 20 1 19,Ac 21 1 20,Aa 22 1,AZ 23 21 22,Aa 6 23]
def ov:LSO:=[Aa 24 6,Ae 25 24,Ad 26 0 25,Ac 27 1 26,BI 28 50 27,Aa 29 6,Ae 30 29,Ad 31 2 30,Ac 32 1 31,Ag 33 68 32,Aa 4 28,Aa 5 33]
def el:aI:=⟨34,(ag6 oz [] (.seq (ag6 oy Ce (ag8 17 (.sreg ox []))) (ag6 ow Cg (.seq (.sdreg ov [.pure,(.read 0 0),.pure,(.read 0 0),(.read 0 0),.pure,(.read 0 0),.pure,(.read 0 0)] CA) .ret)))),[(.tmp 4),(.tmp 5)]⟩
attribute [push_cast] oz oy ox ow ov
theorem nv:ahb 34=ahc el:=ahf
def Hm:LSO:=[Aq 2]
def Hl:LSO:=[o1 3 (.alloc [(.sl [] 0 (some 0))])]
def Hk:LSO:=[Aa 8 0,Ag 9 128 8]
def Hj:LSO:=[Aa 5 11]
def Hi:LSO:=[Aa 13 5,Bi 14 13,Ag 15 61 14,Aa 12 15,Am 16 12,An 17 12,Aa 6 16,Aa 7 17]
def Hh:LSO:=[Ac 18 1 3,Aa 19 6,AK 20 19,BZ 21 18 20,Ai 1 3 21]
def Hg:LSO:=[Ac 22 1 3,Aa 2 22]
def Gl:aI:=⟨23,(ag6 Hm [] (ag6 Hl [] (.seq (ag6 Hk Cc (.block 0 (.rangeF (tm 9) [10,11] (.sreg Hj []) (.block 1 (ag6 Hi CH (.sreg Hh Cp)))))) (ag6 Hg Cc .ret)))),[(.tmp 2)]⟩
attribute [push_cast] Hm Hl Hk Hj Hi Hh Hg
theorem Qg:aL Tryz.prog (λr i=>if r=5/\i=3 then 2 else 1) 94=some Gl.raw:=ahf
def ou:LSO:=[A1 3 0,Aq 6]
def ot:LSO:=[Ac 12 1 3,AB 13 12,Aa 14 13,.grp none 14 false
 [A4 15 14 1 3,Bv 16 14 15,A7 17 14 1 16,A4 18 14 1 17,Ah 19 14 1,og 20 14 false (.mget .int false .nilptr (tm 18) (tm 19)),BY 21 14 20]
 22 (tm 21),Aa 23 22,.grp none 23 false
 [Ah 24 23 2,BQ 25 23 24 0]
 26 (tm 25),Aa 27 26,.grp none 27 false
 [Ah 28 27 2,AD 29 27 28 2]
 30 (tm 29)]
def oq:LSO:=[Aq 6]
def oo:LSO:=[Ac 31 1 3,Ae 32 31,Ad 33 1 32,Ac 34 1 33,Aa 35 1,AZ 36 34 35,Ae 37 36,Ad 38 1 37,Ac 39 1 38,Aa 7 39]
def om:LSO:=[Aq 8]
def ol:LSO:=[Ac 40 1 3,Ae 41 40,Ad 42 1 41,Ac 43 1 42,o1 44 (.mrange (tm 43))]
def oj:LSO:=[o1 45 (.mnext (tm 44)),Am 46 45]
def oi:LSO:=[o1 47 (.mentry (tm 44)),Am 48 47,An 49 47,Aa 9 48,Aa 10 49]
def oe:LSO:=[Aa 50 10,Ae 51 50,Ad 52 1 51,Ac 53 1 52,Af 54 53,Aa 55 7,Af 56 55,Bl 57 54 56,Aa 11 57]
def oc:LSO:=[Aa 58 11,Bf 59 58 0,Aa 60 59,.grp none 60 true
 [Ao 61 60 10,BA 62 60 61,AS 63 60 1 62,AN 64 60 1 63,Ao 65 60 7,Bm 66 60 65,og 67 60 true (.slV 1 (tm 64) none (some (tm 66)) none),Ao 68 60 7,
 og 69 60 true (.call 71 [(tm 67),(tm 68)])]
 70 (tm 69),Aa 71 70,.grp none 71 true
 [Ao 72 71 2,AU 73 71 72 2,Ao 74 71 73,.grp (some (71,true)) 74 false
 [Ah 75 74 11,Ah 76 74 2,og 77 74 false (.bin .eql (tm 75) (tm 76))]
 78 (tm 77)]
 79 (tm 78)]
def mq:LSO:=[Aa 80 8,Aa 81 9,o1 82 (.bslice false 1 1 [(.int .i64 0)] [(0,(1,(tm 81)))]),o1 83 (.app 2 1 8 [(.int .i64 0)] (tm 80) (tm 82)),Aa 8 83]
def mp:LSO:=[Aa 84 8,o1 85 (.mkfn 73 [(tm 3)]),Ax 86 72 84 85]
def mo:LSO:=[Aa 87 8,Aa 6 87]
def bj:aI:=⟨88,(ag6 ou [] (.seq (ag6 ot Cj (ag8 30 (.sreg oq []))) (ag6 oo Cl (ag6 om [] (.seq (ag6 ol Cf (ag9 0 (ag6 oj Cc (.seq (aha 46 0) (.block 1 (ag6 oi Cm (ag6 oe C4 (ag6 oc Ch (ag7 79 (.sreg mq Cf) .skip))))))))) (ag6 mp Ct (ag6 mo Cc .ret))))))),[(.tmp 6)]⟩
attribute [push_cast] ou ot oq oo om ol oj oi oe oc mq mp mo
theorem ek:aL Tryz.prog (λr i=>if r=10/\i=3 then 2 else 1) 32=some bj.raw:=ahf
def qI:LSO:=[Al 6]
def qH:LSO:=[Aa 7 1,Af 8 7,Aa 9 2,Af 10 9,Bb 11 8 10,Aa 12 11,.grp none 12 true
 [Ao 13 12 1,Ao 14 12 2,og 15 12 true (.call 77 [(tm 13),(tm 14)])]
 16 (tm 15),Aa 6 16]
def fg:aI:=⟨17,(ag6 qI [] (ag6 qH Cj .ret)),[(.tmp 6)]⟩
attribute [push_cast] qI qH
theorem qr:ahb 36=ahc fg:=ahf
def lw:LSO:=[A1 5 2,Ab 6 0]
def lv:LSO:=[Ad 16 2 5,Ac 17 1 16,Ag 18 35 17,Aa 15 18,Am 19 15,An 20 15,Aa 7 19,Aa 8 20]
def lu:LSO:=[Aa 22 0,Ad 23 1 5,Ac 24 1 23,Aa 25 0,Ae 26 25,Ad 27 0 26,Ac 28 1 27,AX 29 36 22 24 28,Aa 21 29]
def lr:LSO:=[Ab 6 53]
def lq:LSO:=[Aa 31 8,Az 32 31 0,Aa 33 32,.grp none 33 false
 [A7 34 33 2 5,A4 35 33 1 34,AI 36 33 35,AY 37 33 36 0]
 38 (tm 37),Aa 30 38]
def lh:LSO:=[Ab 6 34]
def k9:LSO:=[Ad 40 2 5,Ac 41 1 40,Ca 42 41 1,Ad 43 1 5,Ac 44 1 43,Ax 45 77 42 44,Aa 39 45]
def k8:LSO:=[Ab 6 53]
def k7:LSO:=[Aa 47 0,Ad 48 2 5,Ac 49 1 48,Ca 50 49 1,Ax 51 26 47 50,A0 52 51 0,Aa 46 52]
def kZ:LSO:=[Ab 6 32]
def kG:LSO:=[Aa 53 0,Ad 54 2 5,Ac 55 1 54,Ax 56 26 53 55,Aa 9 56]
def kF:LSO:=[Aa 57 9,A8 58 57 0,Aa 59 58,.grp none 59 true
 [Ao 60 59 9,Ao 61 59 1,BO 62 59 60 61]
 63 (tm 62)]
def kD:LSO:=[Ab 6 68]
def kB:LSO:=[Aa 64 0,Aa 65 1,Ba 66 32 64 65 2,Af 67 66,Ab 68 0]
def kA:LSO:=[Ap 69 68 67]
def kw:LSO:=[Ak 70 1 66 68,Ac 71 1 70,Aa 11 71]
def ku:LSO:=[Aa 72 0,Ae 73 72,Ad 74 1 73,Ac 75 1 74,Aa 76 11,AZ 77 75 76,Ae 78 77,Ad 79 0 78,Ac 80 1 79,Aa 12 80]
def kr:LSO:=[Ad 82 2 5,Ac 83 1 82,Aa 84 12,Aa 85 12,Af 86 85,Ad 87 1 5,Ac 88 1 87,Af 89 88,Bl 90 86 89,o1 91 (.slV 1 (tm 84) none (some (tm 90)) none),
 Ax 92 50 83 91,Ag 93 35 92,Aa 81 93,Am 94 81,An 95 81,Aa 13 94,Aa 14 95]
def ko:LSO:=[Aa 96 14,Az 97 96 0]
def kl:LSO:=[Ab 6 34]
def kk:LSO:=[Aj 98 68 1,Aa 68 98]
def kj:LSO:=[Ab 6 0]
def aD:aI:=⟨99,(ag6 lw [] (ag6 lv Cj (.seq (.block 0 (.seq (.sdreg lu [.pure,.pure,(.read 0 0),.pure,(.read 0 0),.pure,(.read 0 0)] C4) (ag7 21 (ag6 lr [] .ret) (ag6 lq Cf (ag7 30 (ag6 lh [] .ret) (.seq (.sdreg k9 [.pure,(.read 0 0),(.read 0 0),.pure,(.read 0 0)] Cg) (ag7 39 (ag6 k8 [] .ret) (ag6 k7 Cg (ag8 46 (.sreg kZ [])))))))))) (.seq (ag6 kG Cf (ag6 kF Ce (ag8 63 (.sreg kD [])))) (.seq (ag6 kB C7 (ag9 1 (ag6 kA [] (.seq (aha 69 1) (.seq (.block 2 (ag6 kw Cd (ag6 ku Cl (.seq (.sdreg kr [.pure,(.read 0 0),.pure,.pure,(.read 0 0),.pure,(.read 0 0),(.read 0 0),.pure,(.read 0 0),(.read 0 0),(.read 0 0),.pure,.pure,.pure,.pure] C8) (ag6 ko Cc (ag8 97 (.sreg kl []))))))) (.sreg kk Cc)))))) (ag6 kj [] .ret)))))),[(.tmp 6)]⟩
attribute [push_cast] lw lv lu lr lq lh k9 k8 k7 kZ kG kF kD kB kA kw ku kr ko kl kk kj
theorem be:ahb 37=ahc aD:=ahf
def sX:LSO:=[Aa 7 0,Ae 8 7,Ad 9 0 8,Ac 10 1 9,Ae 11 10,Ad 12 1 11,Ac 13 1 12,Aa 14 1,AZ 15 13 14,Aa 6 15]
def sW:LSO:=[Aa 16 6,Aa 17 6,Aa 18 2,BI 19 50 18,Aa 20 2,Ag 21 94 20,Ae 22 16,Ad 23 0 22,Ai 1 23 19,Ae 24 17,Ad 25 1 24,Ai 1 25 21]
def sV:List (aj×Kd):=
 [Ar 26 0,A3 27 26 0 1,Au 28 0 27,Aw 29 1 28 0 1,A3 30 29 0 1,Au 31 2 30,Aw 32 1 31 0 1,Ar 33 6,A3 34 33 0 0,Au 35 1 34,Aw 36 1 35 0 0,od 37 (.call 97 [(tm 36)]) .eff,
 AP 38 96 37 0 0,od 39 (.call 95 [(tm 38),(.av (.str [44]))]) (.read 0 0),Ar 40 1]
def q0:List aj :=
 [⟨none,(.mset .str (tm 32) (tm 39) (tm 40)),none⟩]
def nK:aI:=⟨41,(ag6 sX Cl (ag6 sW CI (.dregM sV q0 [false,false,false,false,false,false,false,false,false,false,false,false,false,false,false]))),[]⟩
attribute [push_cast] sX sW sV q0
theorem Jp:aL Tryz.prog (λr i=>if r=2/\i=11 then 3 else 1) 69=some nK.raw:=ahf
def sQ:LSO:=[A1 1 0,o1 2 (.mv (.av .nilfunc))]
def sP:LSO:=[o1 3 (.mkfn 130 [(tm 1)]),Aa 2 3]
def nI:aI:=⟨4,(ag6 sQ [] (ag6 sP Cc .ret)),[(.tmp 2)]⟩
attribute [push_cast] sQ sP
theorem Jn:ahb 97=ahc nI:=ahf
def n9:LSO:=[A1 2 0]
def n7:LSO:=[Ac 5 1 1,Ag 6 131 5]
def nZ:LSO:=[Aa 4 8]
def nY:LSO:=[Ac 9 1 2,Aa 10 4,BH 11 9 10,A6 12 11]
def kO:aI:=⟨13,(ag6 n9 [] (ag6 n7 Cc (.block 0 (.rangeF (tm 6) [7,8] (.sreg nZ []) (.block 1 (ag6 nY Ce (ag7 12 .ret .skip))))))),[]⟩
attribute [push_cast] n9 n7 nZ nY
theorem Gm:ahb 130=ahc kO:=ahf
def mu:LSO:=[Aa 7 0,Ae 8 7,Ad 9 0 8,Ac 10 1 9,Aa 11 1,Ca 12 11 1,Ax 13 26 10 12,Aa 6 13]
def mt:LSO:=[Aa 14 6,A8 15 14 0]
def mr:LSO:=[Aa 16 0,Ae 17 16,Ad 18 0 17,Ac 19 1 18,Ae 20 19,Ad 21 1 20,Ac 22 1 21,Aa 23 6,AZ 24 22 23,Ae 25 24,Ad 26 3 25,Ac 27 1 26,Aa 28 2,A9 29 27 28,
 Ae 30 24,Ad 31 3 30,Ai 1 31 29]
def dr:aI:=⟨32,(.seq (.sdreg mu [.pure,(.read 0 0),.pure,(.read 0 0),.pure,(.read 0 0)] Cj) (ag6 mt Cc (ag7 15 (.sreg mr [false,false,false,false,false,false,false,false,false,false,false,false,false,false,false,false]) .skip))),[]⟩
attribute [push_cast] mu mt mr
theorem lM:ahb 70=ahc dr:=ahf
def KV:LSO:=[Al 4]
def KU:LSO:=[Aa 10 0,Ag 11 35 10,Aa 9 11,Am 12 9,An 13 9,Aa 5 12,Aa 6 13]
def KT:LSO:=[Aa 15 1,Ag 16 61 15,Aa 14 16,Am 17 14,An 18 14,Aa 7 17,Aa 8 18]
def KS:LSO:=[Aa 19 6,Az 20 19 0,Aa 21 20,.grp none 21 false
 [Ah 22 21 8,BJ 23 21 22 0]
 24 (tm 23),Aa 25 24,.grp none 25 false
 [Ah 26 25 0,AI 27 25 26,Ah 28 25 1,AI 29 25 28,og 30 25 false (.bin .lss (tm 27) (tm 29))]
 31 (tm 30)]
def KR:LSO:=[Al 4]
def KQ:LSO:=[Aa 32 0,Aa 33 0,Af 34 33,Aa 35 1,Af 36 35,Bl 37 34 36,o1 38 (.slV 1 (tm 32) (some (tm 37)) none none),o1 39 (.call 76 [(tm 38),(.av (.bool true))]),
 Aa 40 7,Bb 41 39 40,Aa 4 41]
def fB:aI:=⟨42,(ag6 KV [] (ag6 KU Cg (ag6 KT Ck (.seq (ag6 KS Ch (ag8 31 (.sreg KR []))) (ag6 KQ Cu .ret))))),[(.tmp 4)]⟩
attribute [push_cast] KV KU KT KS KR KQ
theorem mf:ahb 77=ahc fB:=ahf
def dg:LSO:=[A1 1 0,o1 2 (.mv (.av .nilfunc))]
def df:LSO:=[o1 3 (.mkfn 160 [(tm 1)]),Aa 2 3]
def bR:aI:=⟨4,(ag6 dg [] (ag6 df Cc .ret)),[(.tmp 2)]⟩
attribute [push_cast] dg df
theorem jk:ahb 128=ahc bR:=ahf
def cS:LSO:=[Ac 4 1 1,Af 5 4,AM 6 5 1,Aa 3 6]
def cR:LSO:=[Aa 7 3,Bf 8 7 0]
def cQ:LSO:=[Aa 11 0,Aa 12 3,Ac 13 1 1,Aa 14 3,Ak 15 1 13 14,Ac 16 1 15,o1 17 (.callv (tm 11) [(tm 12),(tm 16)]),A6 18 17]
def cP:LSO:=[Aa 9 3,AM 10 9 1,Aa 3 10]
def bJ:aI:=⟨19,(ag6 cS Ce (ag9 0 (.seq (ag6 cR Cc (aha 8 0)) (.seq (.block 1 (ag6 cQ Cj (ag7 18 .ret .skip))) (.sreg cP Cd))))),[]⟩
attribute [push_cast] cS cR cQ cP
theorem iC:ahb 160=ahc bJ:=ahf
def dE:LSO:=[A1 1 0,o1 2 (.mv (.av .nilfunc))]
def dD:LSO:=[o1 3 (.mkfn 161 [(tm 1)]),Aa 2 3]
def bX:aI:=⟨4,(ag6 dE [] (ag6 dD Cc .ret)),[(.tmp 2)]⟩
attribute [push_cast] dE dD
theorem jD:ahb 131=ahc bX:=ahf
def dc:LSO:=[Ac 4 1 1,Af 5 4,AM 6 5 1,Aa 3 6]
def db:LSO:=[Aa 7 3,Bf 8 7 0]
def da:LSO:=[Aa 11 0,Aa 12 3,Ac 13 1 1,Aa 14 3,Ak 15 1 13 14,Ac 16 1 15,o1 17 (.callv (tm 11) [(tm 12),(tm 16)]),A6 18 17]
def cZ:LSO:=[Aa 9 3,AM 10 9 1,Aa 3 10]
def bM:aI:=⟨19,(ag6 dc Ce (ag9 0 (.seq (ag6 db Cc (aha 8 0)) (.seq (.block 1 (ag6 da Cj (ag7 18 .ret .skip))) (.sreg cZ Cd))))),[]⟩
attribute [push_cast] dc db da cZ
theorem iX:ahb 161=ahc bM:=ahf
def iH:LSO:=[Aq 2]
def iG:LSO:=[Aa 3 0,o1 4 (.call 129 [(.av (.sl [] 0 (some 0))),(tm 3)]),Aa 2 4]
def fh:aI:=⟨5,(ag6 iH [] (ag6 iG Cd .ret)),[(.tmp 2)]⟩
attribute [push_cast] iH iG
theorem sB:ahb 96=ahc fh:=ahf
def dm:LSO:=[A1 2 0,Aq 4]
def dl:LSO:=[Aa 6 1]
def dj:LSO:=[Aa 5 7]
def di:LSO:=[Ac 8 1 2,Aa 9 5,AK 10 9,BZ 11 8 10,Ai 1 2 11]
def dh:LSO:=[Ac 12 1 2,Aa 4 12]
def bS:aI:=⟨13,(ag6 dm [] (.seq (ag6 dl [] (.block 0 (.rangeF (tm 6) [7] (.sreg dj []) (.block 1 (.sreg di Cp))))) (ag6 dh Cc .ret))),[(.tmp 4)]⟩
attribute [push_cast] dm dl dj di dh
theorem jl:aL Tryz.prog (λr i=>if r=3/\i=3 then 2 else 1) 129=some bS.raw:=ahf
def fc:LSO:=[Al 4]
def fb:LSO:=[Aa 6 0,Af 7 6,Aa 8 1,Af 9 8,AT 10 7 9]
def fa:LSO:=[Al 4]
def eZ:LSO:=[Aa 11 0,Af 12 11,Ab 13 0]
def eY:LSO:=[Ap 14 13 12]
def eX:LSO:=[Aa 15 13,Aa 5 15]
def eW:LSO:=[Aa 16 0,Aa 17 5,Ak 18 1 16 17,Ac 19 1 18,Aa 20 1,Aa 21 5,Ak 22 1 20 21,Ac 23 1 22,AT 24 19 23]
def eV:LSO:=[Al 4]
def eU:LSO:=[Aj 25 13 1,Aa 13 25]
def eT:LSO:=[AA 4]
def bg:aI:=⟨26,(ag6 fc [] (.seq (ag6 fb Cf (ag8 10 (.sreg fa []))) (.seq (ag6 eZ Ci (ag9 0 (ag6 eY [] (.seq (aha 14 0) (.seq (.block 1 (ag6 eX Cc (.seq (.sdreg eW [.pure,.pure,(.read 0 0),(.read 0 0),.pure,.pure,(.read 0 0),(.read 0 0)] C4) (ag8 24 (.sreg eV []))))) (.sreg eU Cc)))))) (ag6 eT [] .ret)))),[(.tmp 4)]⟩
attribute [push_cast] fc fb fa eZ eY eX eW eV eU eT
theorem eO:ahb 71=ahc bg:=ahf
attribute [push_cast] jB nJ Gk el Gl bj fg aD nK nI kO dr fB bR bJ bX bM fh bS bg
open Go Go.MapKept
section
variable {P:Program}{w0:World}{S0:SB}{E:Env}{L:List Blk}{w:World}{T:Tm}{a:Act}{N:Nat}
theorem az.mem1:∀{es:List (AV×AV×Nat)}{rs:List MapEntry}{f:MapEntry},az E es rs->f∈rs->∃e∈es,VR E e.1 f.key/\VR E e.2.1 f.val/\e.2.2=f.born
 |[],rs,f,h,a=>by simp only[az]at h;subst h;cases a
 | (k,x,b)::es,rs,f,h,a=>by
   obtain⟨g,t,rfl,g1,c,g3,g4⟩:=h;rcases aeJ.1 a with rfl|a
   .simp[*]
   .obtain⟨e,he,h1⟩:=az.mem1 g4 a
    grind
theorem az.mem2:∀{es:List (AV×AV×Nat)}{rs:List MapEntry}{e:AV×AV×Nat},az E es rs->e∈es->∃f∈rs,e.2.2=f.born
 |[],rs,e,h,a=>by cases a
 | (k,x,b)::es,rs,e,h,a=>by
   obtain⟨g,t,rfl,g1,c,g3,g4⟩:=h;rcases aeJ.1 a with rfl|a
   .simp[*]
   .obtain⟨f,hf,h1⟩:=az.mem2 g4 a
    grind
theorem QJ{t:TypeId}{v:Value}{i j ck a last:Nat}{seen:List Nat}{es:List (AV×AV×Nat)}(o:Rel w0 S0 E L w)(D:L[i]?=some (.miter (some j) a seen last))(R:L[j]?=some (.map es ck))(K:VR E (.ptr i 0) v)(J:∀e∈es,e.2.2<a)(y:a<=last):
  ∃r,(match r with|none=>∀e∈es,seen.contains e.2.2=true|some e=>e∈es/\seen.contains e.2.2=false)/\bK P w0 S0 E (Rj L i j a seen ck r) (Lz r) w (Instr.next v false t):=by
 obtain⟨c,z,rfl⟩:=K;obtain⟨c',q,B,F,H,d,h4,rfl⟩:=o.blk i _ D;rw[z]at B;cases B;obtain⟨S,rs,g1,Q,g3⟩:=o.blk j _ R;rw[h4]at g1;cases g1;have s:c.blk<w.heap.size:=(ae1.1 F).1;have k:∀x∈rs.toList,x.born<a:=λx N=>by
  obtain⟨e,p,_,_,h⟩:=g3.mem1 N
  grind
 rw[H];rcases run_next_at (P:=P) w t c.blk d.blk a last ⟨seen⟩ rs ck F Q k y with⟨O,g⟩|⟨f,C,n,A,g⟩;refine⟨none,λe p=>?_,.same o g (by simp[Lz,VR,VRL])⟩;obtain⟨f,C,G⟩:=g3.mem2 p;have M:leftOf rs ⟨seen⟩=#[]:=Array.eq_empty_of_size_eq_zero O;unfold leftOf at M;simp_all;have m:f∈rs.toList/\seen.contains f.born=false:=by simp only[leftOf,Array.toList_filter,ae0]at C;simp_all
 obtain⟨e,p,T,U,I⟩:=g3.mem1 m.1;have u:Rel w0 S0 E L n:=by rcases A with rfl|rfl;omega;exact o.grown ⟨λ_ _=>rfl,aek _,rfl,rfl,rfl⟩
 have l:c.blk<n.heap.size:=by rcases A with rfl|rfl<;>exact s
 have turn:=u.turn (w':={n with heap:=n.heap.setIfInBounds c.blk (.mapIter (some d.blk) a ((⟨seen⟩:Array Nat).push f.born) ck)}) (k':=.miter (some j) a (seen++[f.born]) ck) D rfl z ahe (λb G=>by simp[agb,Ne.symm G]) rfl rfl rfl
  ⟨c,some d.blk,z,by simp[l],H,d,h4,rfl⟩ (λ_ _ e=>by cases e)
 refine⟨some e,⟨p,by rw[I];exact m.2⟩,E,.tuple #[.bool true,f.key,f.val],_,g,.refl E,?_,?_⟩;simp only[Lz,VR,VRL]
 grind
 simp only[Rj,I];exact turn
def LOp.isNext:LOp->Bool
 |.mnext _=>true
 |_=>false
theorem UT{own:Nat}{s d:TypeId}{x:Opd}{a:LOp}(h:yK P own s d x=some a):a.isNext=false:=by
 unfold yK at h
 repeat' split at h
 all_goals (first|(cases h;rfl)|cases h)
theorem Xb{op:BinOp}{t:TypeId}{x y:Operand}{a:LOp}(h:Je P op t x y=some a):a.isNext=false:=by
 unfold Je at h
 repeat' split at h
 all_goals (first|(cases h;rfl)|cases h)
theorem QF{own:Nat}{b:Builtin}{ts:List TypeId}{xs:List Opd}{a:LOp}(h:cj P own b ts xs=some a):a.isNext=false:=by
 unfold cj at h
 repeat' split at h
 all_goals (first|(cases h;rfl)|cases h|(simp only[aeK]at h;obtain⟨_,_,rfl⟩:=h;rfl))
theorem UR{own:Nat}{op:Op}{y:Opd}(h:jX P own op=some (.mnext y)):∃x,op=.next x false/\aY x=some y:=by
 cases op
 case next x isS =>
  simp only[jX]at h;split at h
  .simp_all
  simp_all
 case makeMap t r =>
  cases r with
  |some x=>simp[jX]at h
  | none =>
    simp only[jX]at h
    grind
 all_goals (exfalso;simp only[jX]at h;try (cases h;done))
 case binOp=>have:=Xb h;cases this
 case convert x=>simp only[af2]at h;obtain⟨_,_,h⟩:=h;have:=UT h;cases this
 case call c =>
  split at h<;>try cases h
  split at h<;>try cases h
  .simp_all
  .have:=QF h;cases this
 all_goals
  repeat' split at h
  all_goals (first|cases h|(simp only[aeK]at h;obtain⟨_,_,h⟩:=h;cases h))
theorem Wx{own:Nat->Nat->Nat}{Q:Exit->Tm->List Blk->Prop}{d t i j b last ck:Nat}{rest:List SOp}{f:List Bool}{seen:List Nat}{es:List (AV×AV×Nat)}(p:(okS rest&&(gds rest).isEmpty)=true)(ht:ar T t=some (.ptr i 0))(hi:L[i]?=some (.miter (some j) b seen last))(hj:L[j]?=some (.map es ck))(q:∀e∈es,e.2.2<b)(C:b<=last)(h0:(∀e∈es,seen.contains e.2.2=true)->SL P rest (Qw f (Q .normal)) ((d,.tup [.bool false])::T) L)(Z:∀e∈es,seen.contains e.2.2=false->SL P rest (Qw f (Q .normal)) ((d,.tup [.bool true,e.1,e.2.1])::T) (L.set i (.miter (some j) b (seen++[e.2.2]) ck))):
  AW P N own (.sreg (.op ⟨some d,.mnext (.tmp t),none⟩::rest) f) Q T L:=λc hc ro ai w0 S0 E a w H=>by
 obtain⟨id,os,rfl,g⟩:=Jh hc;rw[aeq]at p;refine wpIn_region ?_;generalize List.range os.size=is at g⊢;cases is with
 |nil=>simp[bp,SOp.flatL,SOp.flat]at g
 | cons i0 is =>
   simp only[SOp.flatL,SOp.flat,ae6,ae5,bp]at g;split at g<;>try cases g
   rename_i lo Y e1 e2;obtain⟨o,ho,ab,h,hd,hg⟩:=iw e1;rcases hg with⟨g1,_⟩|⟨_,_,_,_,_,_,g4⟩
   .simp only[wpOpsIn,ho];rw[if_pos (by simp[Region.wanted,g1])];have l:jX P (own id i0) o.op=some (.mnext (.tmp t)):=by
     rcases hq:jX P (own id i0) o.op with _|x
     .simp_all
     simp_all
    obtain⟨x,U,B⟩:=UR l;obtain⟨hR,W,R,A⟩:=H;have G:=ah B (show evX T (.tmp t)=some (.ptr i 0)from ht) W;obtain⟨r,hr,E',v,w',S,n,K,I⟩:=QJ (P:=P) (t:=o.type) hR hi hj G q C;have y:∀c,o.op≠.defer c:=λc e=>by rw[U]at e;cases e
    refine⟨λ_ _=>trivial,?_⟩;rw[Oper.semAt_plain _ _ _ y];have F:(execOp a.eval o).run P w=.ok (.value v) w':=by obtain⟨od,al,M,O,s,u⟩:=o;subst U;show(do pure (Next.value (<- Instr.next (a.eval x) false M)):Sem Next).run P w=_;simp[*]
    rw[F,Oper.uponIn_value];have m:St w0 S0 N E' (bz (some d) (Lz r) T) (Rj L i j b seen ck r) (a.put o.dst v) w':=⟨I,by rw[h];exact(W.mono n).putT (λk V=>by rw[R];exact hd k (by rw[h];exact V)) K,by rw[Pi];exact R,by rw[Jc];exact A⟩;have D:Fr (gds rest) (bz (some d) (Lz r) T):=λk V=>by simp_all
    have z:SL P rest (Qw f (Q .normal)) (bz (some d) (Lz r) T) (Rj L i j b seen ck r):=by
     cases r with
     |none=>exact h0 hr
     |some e=>exact Z e hr.1 hr.2
    refine D2 rest p.1 e2 m D z λJ T' L' a' ad q2 X q4=>⟨w0,S0,J,sel f T',L',.refl _ _,n.trans q2,X.2,q4.weak (λt v G=>GJ X.1 G) rfl λ_ _ e=>.inr e⟩
   simp_all
end
variable {L:List Blk}{K:aeh}
set_option maxHeartbeats 8000000
set_option maxRecDepth 100000
theorem adD{a b:Pth}{D nb:Nat}{ca cb:Option Nat}(C:D=a.length)(f:nb=b.length)(H:a.length<=1100000)(h:K (.bool (decide (a=b))) L):
  aeg 71 [.sl (ay a) D ca,.sl (ay b) nb cb] L K:=by
 subst C f;by_cases E:a.length=b.length;rotate_left;rw[decide_eq_false (λc=>E (by rw[c]))]at h;replace h:=hid h;have g:¬(a.length:Int)=(b.length:Int):=ahd;refine aef eO ?_;exact ag h.o;obtain⟨n,p⟩:=aec (a.length);have f:b.length=n:=ahd;obtain⟨R,B⟩:=aec (decide (a=b));rw[B]at h;replace h:=hid h;have j:decide (a.drop 0=b.drop 0)=R:=B;replace j:=hid j;rw[p,f];rw[p]at H;have M:(ay a).length=n:=by simp[p]
 have I:(ay b).length=n:=by simp[f]
 replace p:=hid p;replace f:=hid f;clear E B;refine aef eO ?_;refine ao (λm T' L'=>∃k:Nat,m=n-k/\k<=n/\Hid (decide (a.drop k=b.drop k)=R)/\T'=[(13,.int .i64 (k:Int)),(12,.int .i64 n),(0,.sl (ay a) n ca),(1,.sl (ay b) n cb)]/\L=L') (CutS (b:=aek _)) ⟨0,rfl,aep _,j,rfl,rfl⟩ ?_;rintro _ _ L' ⟨k,rfl,N,t,rfl,e⟩;subst e;clear j;have d:=t.o;by_cases l:k<n;have g1:(k:Int)<(n:Int):=ahd;have J:=aee k ahd;have l1:k<a.length:=by rw[p.o];exact l
 have s:k<b.length:=by rw[f.o];exact l
 have F:(ay a).getD k .undef=.str (a.getD k []):=by simp[l1]
 have G:(ay b).getD k .undef=.str (b.getD k []):=by simp[s]
 have v:a.drop k=a.getD k []::a.drop (k+1):=by rw[ae3 l1];simp[l1]
 have z:b.drop k=b.getD k []::b.drop (k+1):=by rw[ae3 s];simp[s]
 rw[v,z]at d;obtain⟨x,u⟩:=aec (a.getD k []);obtain⟨y,w⟩:=aec (b.getD k []);rw[u]at F d;rw[w]at G d;by_cases r:x=y;subst r;have q:decide (a.drop (k+1)=b.drop (k+1))=R:=by rw[<- d];simp
 replace q:=hid q;clear t d v z u w l1 s;refine wk ?_;exact ahi ahd ahg ⟨k+1,rfl,l,hid q.o,rfl,rfl⟩;have hr:R=false:=by rw[<- d];simp[r]
 have i:=h.o;rw[hr]at i;replace i:=hid i;clear t d v z u w l1 s hr;refine wk ?_;exact ag i.o;have A:k=n:=ahd;subst A;have g1:¬(k:Int)<(k:Int):=ahd;have hr:R=true:=by rw[<- d,afI (by rw[p.o];exact aek _),afI (by rw[f.o];exact aek _)];rfl
 have i:=h.o;rw[hr]at i;replace i:=hid i;clear t d hr;refine wk ?_;exact ag i.o
theorem acM{ws:List WtE}{p:WtE}{ck:Nat}{seen:List Nat}(d:(ws.map (·.2.2)).Nodup)(c:p∈ws):mat (ws.map wtA) ck (seen++[p.2.2]) ck=some (wtA p):=by
 have key:∀ws:List WtE,(ws.map (·.2.2)).Nodup->p∈ws->(ws.map wtA).find? (λe=>Nat.beq e.2.2 p.2.2)=some (wtA p):=by
  intro ws;induction ws with
  |nil=>intro _ h;cases h
  | cons x ws ih =>
    intro a h;rw[aex,aff]at a;rcases aeJ.1 h with h|h
    .subst h;simp[wtA]
    .have hne:x.2.2≠p.2.2:=λe=>a.1 (ael.2 ⟨p,h,e.symm⟩)
     have b:Nat.beq x.2.2 p.2.2=false:=by
      cases hh:Nat.beq x.2.2 p.2.2 with
      |false=>rfl
      |true=>exact absurd (agV hh) hne
     rw[aex,afo];simp only[wtA]at ih⊢;rw[b];exact ih a.2 h
 unfold mat;simp only[List.getLast?_append,List.getLast?_singleton,Option.some_or,if_true];exact key ws d c
structure OE(ws:List WtE)(n ck:Nat):Prop where
 keys:(ws.map (·.1)).Nodup
 born:(ws.map (·.2.2)).Nodup
 lt:∀e∈ws,e.2.2<ck
 rng:∀e∈ws,0<=e.1/\e.1<(n:Int)
theorem OE.erase{ws:List WtE}{n ck:Nat}(h:OE ws n ck)(j:Nat):OE (ws.eraseIdx j) n ck:=by have a:=ag2 ws j;exact⟨h.keys.sublist (a.map _),h.born.sublist (a.map _),λe b=>h.lt e (a.subset b),λe b=>h.rng e (a.subset b)⟩
theorem Rk{α β:Type}(f:α->β):∀(l:List α) (k:Nat),(l.map f).eraseIdx k=(l.eraseIdx k).map f
 |[],_=>rfl
 |a::l,0=>rfl
 |a::l,k+1=>by rw[aex,agB,agB,aex,Rk f l k]
theorem O2:∀{W:List WtE}{j:Nat}{p:WtE},(W.map (·.1)).Nodup->j<W.length->W.getD j default=p->∀i:Int,(W.eraseIdx j).find? (λe=>decide (e.1=i))=if p.1=i then none else W.find? (λe=>decide (e.1=i))
 | e::W,0,p,hk,_,hp,i=>by
   have:e=p:=hp;subst this;rw[aex,aff]at hk;rw[List.eraseIdx_cons_zero];by_cases c:e.1=i
   .rw[if_pos c];exact afr.2 λx f=>by simp only[decide_eq_true_eq];intro q;exact hk.1 (ael.2 ⟨x,f,by rw[q,c]⟩)
   .rw[if_neg c,afo,decide_eq_false c]
 | e::W,j+1,p,hk,hj,hp,i=>by
   rw[aex,aff]at hk;have a:j<W.length:=(by simpa using hj);have b:W.getD j default=p:=(by simpa using hp);have d:p∈W:=(by rw[<- b];simp[a]);rw[agB,afo,O2 hk.2 a b i,afo];by_cases c:e.1=i
   .have:p.1≠i:=λq=>hk.1 (ael.2 ⟨p,d,by rw[q,c]⟩)
    rw[decide_eq_true c];simp only[if_neg this]
   .rw[decide_eq_false c]
theorem Vp{W:List WtE}{D:List (List UInt8)}{j k:Nat}{s:List UInt8}{b:Nat}(d:(W.map (·.1)).Nodup)(f:j<W.length)(g:W.getD j default=((k:Int),s,b))(l:k<D.length)(i:Nat):sL (D.set k s) (W.eraseIdx j) i=sL D W i:=by
 unfold sL;rw[O2 d f g];by_cases c:k=i;subst c;have a:((k:Int),s,b)∈W:=by rw[<- g];simp[f]
 have m:W.find? (λe=>decide (e.1=(k:Int)))=some ((k:Int),s,b):=by
  cases h:W.find? (λe=>decide (e.1=(k:Int)))with
  |none=>exact absurd (afr.1 h _ a) ahe
  |some e=>rw[bO d (afK h) a (by simpa using afL h)]
 rw[if_pos rfl,m];simp[l];rw[if_neg (by simp only;omega)];cases W.find? (λe=>decide (e.1=(i:Int)))with
 |none=>simp only[aeA];rw[aeo c]
 |some e=>rfl
section
variable {L:List Blk}{dp lp wp ck:Nat}{cp:Option Nat}{lim:Int}{x y z:AV}{ls:List (List UInt8)}{ws:List WtE}
theorem ZI(hd:L[dp]?=some (.cells (fy lp wp ls.length cp lim false 0 x y z)))(hl:L[lp]?=some (.cells (ls.map AV.str)))(hw:L[wp]?=some (.map (ws.map wtA) ck))(t:OE ws ls.length ck)(n1:dp≠lp)(n2:dp≠wp)(n3:lp≠wp)(al:ls.length<=8192){K:aeh}(h:∀M,M[lp]?=some (.cells (((List.range ls.length).map (sL ls ws)).map AV.str))->M[wp]?=some (.map [] ck)->(∀j,j≠lp->j≠wp->j<L.length->M[j]?=L[j]?)->L.length<=M.length->K (.int .i64 0) M):aeg 90 [.ptr dp 0] L K:=by
 obtain⟨S,C⟩:∃e:Int,(if(0:Int)<0\/(ls.length:Int)<=0 then(2:Int)else 0)=e:=⟨_,rfl⟩;have kk1:Hid (∀{K:aeh},K (.int .i64 S) L->aeg 81 [.ptr dp 0,.int .i64 0] L K):=@hid _ (λ{K} q=>P2 hd (by rw[if_neg (by decide),C];exact q));have kk2:Hid (∀{K:aeh},K (.bool false) L->aeg 119 [.ptr dp 0] L K):=@hid _ (λ{K} q=>ZL hd q);have g1:decide (S=2)=true\/decide (S=0)=true:=by rw[<- C];split<;>simp
 have g2:(!decide (S=0) && !decide (S=2))=false:=by rcases g1 with g|g<;>simp[g]
 replace h:=hid h;replace t:=hid t;clear C g1;have v:=(aei.1 hd).1;have f:=(aei.1 hl).1;have r:=(aei.1 hw).1;have ai:=hid hw;have ad:=hid hl;have ab:=hid hd;replace v:=hid v;replace f:=hid f;replace r:=hid r;refine aef Gv ?_;clear kk1 kk2 hd hl hw;refine ao (λm T' L'=>∃(W:List WtE) (D:List (List UInt8)) (seen:List Nat),m=W.length/\Hid (OE W ls.length ck/\D.length=ls.length/\(∀i,i<ls.length->sL D W i=sL ls ws i)/\(∀e∈W,seen.contains e.2.2=false)/\L'.length=L.length+1/\L'[L.length]?=some (.miter (some wp) ck seen ck)/\L'[wp]?=some (.map (W.map wtA) ck)/\L'[lp]?=some (.cells (D.map AV.str))/\∀j,j≠lp->j≠wp->j<L.length->L'[j]?=L[j]?)/\T'=[(23,.ptr L.length 0),(0,.ptr dp 0)]) ahh ⟨ws,ls,[],rfl,hid ⟨t.o,rfl,λi _=>rfl,ahe,ahe,ahe,by rw[aem r.o];exact ai.o,by rw[aem f.o];exact ad.o,λj _ _ G=>aem G⟩,rfl⟩ ?_;rintro _ _ M ⟨W,D,seen,rfl,X,rfl⟩;obtain⟨l,U,R,P,T,w6,J,V,H⟩:=X.o;refine kX ?_;refine Wx (i:=L.length) (j:=wp) (es:=W.map wtA) ahf rfl w6 J (λe E=>?_) (aek _) (λw=>?_) (λe E hs=>?_);obtain⟨p,u,rfl⟩:=ael.1 E;exact l.lt p u;have hW:W=[]:=by
  cases W with
  |nil=>rfl
  | cons e W =>
    have a:=w (wtA e) (ael.2 ⟨e,ahe,rfl⟩);have b:=P e ahe;change seen.contains e.2.2=true at a;rw[a]at b;cases b
 subst hW;have hD:D=(List.range ls.length).map (sL ls ws):=by apply afj;intro i;rcases aeN i ls.length with q|q;rw[ae8,List.getElem?_range q,aeF ahd];have:=R i q;simp only[sL,List.find?_nil]at this;rw[<- show D.getD i []=D[i]from by simp[show i<D.length by omega],this];rfl;rw[afb ahd,afb (by simp;omega)]
 have h':=hid (h.o M (by rw[<- hD];exact V) J H ahd);clear X l U R P T w6 J V H w hD h t;refine ahl ?_;exact ag h'.o;obtain⟨p,u,rfl⟩:=ael.1 E;obtain⟨q1,q2⟩:=l.rng p u;have N:M[dp]?=some (.cells (fy lp wp ls.length cp lim false 0 x y z)):=by rw[H dp n1 n2 v.o];exact ab.o
 obtain⟨F,c⟩:=aec (M.set L.length (.miter (some wp) ck (seen++[p.2.2]) ck));have Z:=hid (Nat.ne_of_lt v.o);have I:=hid (Nat.ne_of_lt f.o);have B:=hid (Nat.ne_of_lt r.o);have a1:F[L.length]?=some (.miter (some wp) ck (seen++[p.2.2]) ck):=by rw[<- c,aeQ ahd]
 have a2:F[wp]?=some (.map (W.map wtA) ck):=by rw[<- c,aeo (Ne.symm B.o)];exact J
 have a3:F[lp]?=some (.cells (D.map AV.str)):=by rw[<- c,aeo (Ne.symm I.o)];exact V
 have a4:F[dp]?=some (.cells (fy lp wp ls.length cp lim false 0 x y z)):=by rw[<- c,aeo (Ne.symm Z.o)];exact N
 have b2:∀b:Blk,(F.set lp b)[wp]?=some (.map (W.map wtA) ck):=λb=>by rw[aeo n3];exact a2
 have b4:∀b:Blk,(F.set lp b)[dp]?=some (.cells (fy lp wp ls.length cp lim false 0 x y z)):=λb=>by rw[aeo (Ne.symm n1)];exact a4
 have O:=acM (ck:=ck) (seen:=seen) l.born u;have hf:=OF W p.1 0;have an:aT .int (.int .i64 p.1)=true:=rfl;obtain⟨j,G,s⟩:∃j,(W.findIdx? λe=>decide (e.1=p.1))=some j/\W.getD j default=p:=by rcases RF W p.1 with⟨a,b⟩|⟨n,a,b⟩;exact absurd (afr.1 b p u) ahe;refine⟨n,a,?_⟩;have Q:=afK b;have h2:(W.getD n default).1=p.1:=(by simpa using afL b);exact bO l.keys Q u h2
 rw[G]at hf;simp only[aeC,afE,s]at hf;obtain⟨k,hk⟩:∃k:Nat,p.1=k:=⟨p.1.toNat,ahd⟩;obtain⟨pi,ps,Y⟩:=p;simp only at hk;subst hk;simp only[wtA]at hf O a1 c⊢;rw[c];have c1:k<ls.length:=by simp only at q2;omega
 have c2:k+1<=D.length:=ahd;replace c:=hid c;replace l:=hid l;replace U:=hid U;replace R:=hid R;replace P:=hid P;replace T:=hid T;replace H:=hid H;replace G:=hid G;replace s:=hid s;replace u:=hid u;clear E hs X w6 J V q1 q2 N;refine ahl ?_;have A:j<W.length:=by have:=G.o;rw[agA]at this;exact this.1
 have d:F.length=L.length+1:=by rw[<- c.o,List.length_set];exact T.o
 refine ahi (show(W.eraseIdx j).length<W.length by rw[List.length_eraseIdx_of_lt A];omega) (CutS (b:=by simp[d])) ⟨W.eraseIdx j,D.set k ps,seen++[Y],rfl,hid ⟨l.o.erase j,by rw[List.length_set];exact U.o,λi hi=>by rw[Vp l.o.keys A s.o ahd];exact R.o i hi,λe E=>?_,by simp[d],?_,?_,?_,λi i1 i2 i3=>?_⟩,rfl⟩;have hm:=(ag2 W j).subset E;have Q:=P.o e hm;have h2:e.2.2≠Y:=λq=>by have h3:=bO l.o.born hm u.o (show e.2.2=((k:Int),ps,Y).2.2 from q);have h4:=O2 l.o.keys A s.o (k:Int);rw[if_pos rfl]at h4;exact absurd (afr.1 h4 e E) (by rw[h3];simp)
 rw[Bool.eq_false_iff]at Q⊢;simp only[ne_eq,agX,aen,aeG,not_or]at Q⊢;exact⟨Q,h2⟩;rw[aeo B.o,aeo I.o];exact a1;rw[aeQ (by simp[d];have:=B.o;have:=r.o;omega),Rk];rw[aeo (Ne.symm n3),aeQ (by rw[d];have:=f.o;omega),List.map_set,List.set_eq_take_append_cons_drop,if_pos (by simp;omega)];rw[aeo (Ne.symm i2),aeo (Ne.symm i1),<- c.o,aeo ahd];exact H.o i i1 i2 i3
end
set_option maxHeartbeats 8000000
set_option maxRecDepth 100000
abbrev GX:List UInt8:=List.replicate 128 0
section
variable {L:List Blk}{dp lp wp ck:Nat}{cp:Option Nat}{lim left:Int}{off:Bool}{x y z:AV}{ls:List (List UInt8)}{ws:List WtE}
theorem ZH(hd:L[dp]?=some (.cells (fy lp wp ls.length cp lim off left x y z))){n:Int}{K:aeh}(h:K (.tup []) (L.set dp (.cells (fy lp wp ls.length cp (if n>0 then n else 0) off left x y z)))):aeg 15 [.ptr dp 0,.int .i64 n] L K:=by replace h:=hid h;refine aef Gu ?_;exact GH rfl trivial (ag h.o)
theorem acY(hd:L[dp]?=some (.cells (fy lp wp ls.length cp lim off left x y z)))(E:L[lp]?=some (.cells (ls.map AV.str)))(F:L[wp]?=some (.map [] ck))(G:dp≠lp)(U:dp≠wp)(n3:lp≠wp)(N:ls.length<=8192){K:aeh}(h:∀M,M[lp]?=some (.cells ((List.replicate ls.length GX).map AV.str))->(∀j,j≠lp->j<L.length->M[j]?=L[j]?)->L.length<=M.length->K (.tup []) M):aeg 20 [.ptr dp 0,.str []] L K:=by
 replace h:=hid h;have g:=hid (aei.1 hd).1;have p:=hid (aei.1 E).1;have B:=hid (aei.1 F).1;have A:=hid F;have w:=hid E;have n:=hid hd;have S:min 0 128=0:=rfl;have Q:u8s []=[]:=rfl;have z3:QI (.int .u8 0)=true:=rfl;refine aef JC ?_;clear hd E F;refine ao (λm T' L'=>∃(k:Nat),m=ls.length-k/\k<=ls.length/\Hid (L.length<=L'.length/\L'[lp]?=some (.cells ((List.replicate k GX++ls.drop k).map AV.str))/\∀j,j≠lp->j<L.length->L'[j]?=L[j]?)/\T'=[(13,.int .i64 (k:Int)),(12,.int .i64 ls.length),(0,.ptr dp 0),(1,.str [])]) ahh ⟨0,rfl,aep _,hid ⟨aek _,w.o,λ_ _ _=>rfl⟩,rfl⟩ ?_;rintro _ _ M ⟨k,rfl,T,s,rfl⟩;by_cases e:k<ls.length;have g1:(k:Int)<(ls.length:Int):=ahd;have R:=aee k ahd;obtain⟨a,f,d⟩:=s.o;have V:∀X:List Blk,(M++X)[dp]?=some (.cells (fy lp wp ls.length cp lim off left x y z)):=λX=>by rw[aem (by have:=g.o;omega),d dp G g.o];exact n.o
 have J:∀X:List Blk,(M++X)[lp]?=some (.cells ((List.replicate k GX++ls.drop k).map AV.str)):=λX=>by rw[aem (by have:=p.o;omega)];exact f
 obtain⟨C,t⟩:=aec ((List.replicate k GX++ls.drop k).map AV.str);rw[t]at J;have O:C.length=ls.length:=by rw[<- t];simp;omega
 have g3:(0:Int)<=(k:Int):=ahd;have g4:k+1<=ls.length:=e;have u:Hid (C.take k++AV.str GX::C.drop (k+1)=(List.replicate (k+1) GX++ls.drop (k+1)).map AV.str):=hid (by have H:((List.replicate k GX).map AV.str).length=k:=ahe;rw[<- t,aeD,List.take_left' H,<- afU,List.drop_left' H,<- agC,afU,List.replicate_succ',aeD,aeD];simp)
 have l:=hid a;have D:=hid d;have v:=hid (show lp<M.length by have:=p.o;omega);clear s a f d t;refine wk ?_;refine ahi ahd (CutL (b:=by simp;have:=l.o;omega)) ⟨k+1,rfl,e,hid ⟨by simp;have:=l.o;omega,?_,λj a f=>?_⟩,rfl⟩;rw[aeQ (by simp;have:=v.o;omega),<- u.o];rfl;rw[aeo (Ne.symm a),aem (by have:=l.o;omega)];exact D.o j a f;have r:k=ls.length:=ahd;have g1:¬(k:Int)<(ls.length:Int):=ahd;obtain⟨a,f,d⟩:=s.o;have q:M[wp]?=some (.map [] ck):=by rw[d wp (Ne.symm n3) B.o];exact A.o
 have P:M[dp]?=some (.cells (fy lp wp ls.length cp lim off left x y z)):=by rw[d dp G g.o];exact n.o
 have W:M.set wp (.map [] ck)=M:=by apply afj;intro i;by_cases c:i=wp;rw[c,aeQ (aei.1 q).1,q];rw[aeo (Ne.symm c)]
 have I:=hid (h.o M (by rw[f,r];simp) d a);clear s a f d r e;refine wk ?_;exact GH rfl trivial (ag I.o)
theorem acX{n:Int}(k:0<=n)(l:n<=8192){K:aeh}(h:∀M dp lp wp,M[dp]?=some (.cells (fy lp wp n.toNat (some n.toNat) n false 0 (.int .u64 0) (.int .i64 0) (.int .i64 0)))->M[lp]?=some (.cells ((List.replicate n.toNat GX).map AV.str))->M[wp]?=some (.map [] 0)->(∀j,j<L.length->M[j]?=L[j]?)->L.length<=M.length->dp≠lp->dp≠wp->lp≠wp->L.length<=dp->L.length<=lp->L.length<=wp->K (.ptr dp 0) M):
  aeg 6 [.int .i64 n] L K:=by
 replace h:=hid h;obtain⟨m,rfl⟩:∃m:Nat,n=m:=⟨n.toNat,ahd⟩;have g1:¬(8192:Int)<(m:Int):=ahd;have p:(if(m:Int)>0 then(m:Int)else 0)=(m:Int):=by split<;>omega
 refine aef QR ?_;have a:Hid (cY [AV.str []] m=(List.replicate m ([]:List UInt8)).map AV.str):=hid (by rw[List.map_replicate];clear h g1 p k l;induction m with|zero=>rfl|succ n ih=>rw[cY,ih];rfl);rw[a.o];refine acY (ls:=List.replicate m []) (dp:=L.length+2) (lp:=L.length) (wp:=L.length+1) (ck:=0) (cp:=some m) (lim:=m) (left:=0) (off:=false) (x:=.int .u64 0) (y:=.int .i64 0) (z:=.int .i64 0) (by rw[aey ahd];simp) (by rw[aey ahd];simp) (by rw[aey ahd];simp) ahd ahd ahd (by simp;omega) (λM c b d=>?_);have g:M[L.length+2]?=some (.cells (fy L.length (L.length+1) m (some m) m false 0 (.int .u64 0) (.int .i64 0) (.int .i64 0))):=by rw[b _ ahd ahe,aey ahd];simp
 have e:M[L.length+1]?=some (.map [] 0):=by rw[b _ ahd ahe,aey ahd];simp
 have f:M[L.length]?=some (.cells ((List.replicate m GX).map AV.str)):=by rw[c];simp
 have i:=hid (h.o M (L.length+2) L.length (L.length+1) g f e (λj q=>by rw[b j ahd (by simp;omega),aem q]) (by simp at d;omega) ahd ahd ahd ahd ahd ahd);clear h c b d g e f a;refine wk ?_;exact ag i.o
end
set_option maxHeartbeats 8000000
set_option maxRecDepth 100000
section
variable {L:List Blk}{dp lp wp ck:Nat}{cp:Option Nat}{lim left:Int}{off:Bool}{x y z:AV}{ls:List (List UInt8)}
theorem abv(hd:L[dp]?=some (.cells (fy lp wp ls.length cp lim off left x y z)))(n:L[lp]?=some (.cells (ls.map AV.str)))(f:L[wp]?=some (.map [] ck))(q:ls.length<=8192){k t a:Int}{K:aeh}(h:∀b,K (.tup []) (L++[b])):aeg 59 [.ptr dp 0,.agg [.int .u64 k,.int .i64 t,.int .i64 a]] L K:=by
 have r:∀X:List Blk,(L++X)[dp]?=some (.cells (fy lp wp ls.length cp lim off left x y z)):=λX=>aed hd
 have e:∀X:List Blk,(L++X)[wp]?=some (.map [] ck):=λX=>aed f
 have v:∀X:List Blk,(L++X).set wp (.map [] ck)=L++X:=λX=>by apply afj;intro i;by_cases c:i=wp;rw[c,aeQ (aei.1 (e X)).1,e];rw[aeo (Ne.symm c)]
 have g:=hid (h (.cells [.int .u64 k,.int .i64 t,.int .i64 a]));clear h hd n f;refine aef G3 ?_;refine ao (λm T' L'=>∃(j:Nat),m=ls.length-j/\j<=ls.length/\T'=[(14,.int .i64 (j:Int)),(13,.int .i64 ls.length),(4,.int .i64 0),(3,.ptr L.length 0),(0,.ptr dp 0),(1,.agg [.int .u64 k,.int .i64 t,.int .i64 a])]/\L++[.cells [.int .u64 k,.int .i64 t,.int .i64 a]]=L') ahh ⟨0,rfl,aep _,rfl,rfl⟩ ?_;rintro _ _ _ ⟨j,rfl,u,rfl,rfl⟩;by_cases d:j<ls.length;have g1:(j:Int)<(ls.length:Int):=ahd;have s:=aee j ahd;have p:aT .int (.int .i64 (j:Int))=true:=rfl;have l:bF (.int .i64 (j:Int)) [] 0=some none:=rfl;refine wk ?_;exact ahi ahd ahg ⟨j+1,rfl,d,rfl,rfl⟩;have g1:¬(j:Int)<(ls.length:Int):=ahd;clear d;refine wk ?_;exact GH rfl trivial (ag g.o)
theorem adF(hd:L[dp]?=some (.cells (fy lp wp ls.length cp lim off left x y z))){K:aeh}(h:K (.tup []) (L.set dp (.cells (fy lp wp ls.length cp lim false 0 x y z)))):aeg 60 [.ptr dp 0] L K:=by
 have d:∀b:Blk,(L.set dp b)[dp]?=some b:=λb=>aeQ (aei.1 hd).1
 have a:∀b c:Blk,(L.set dp b).set dp c=L.set dp c:=λb c=>agn ..
 replace h:=hid h;refine aef LW ?_;exact GH rfl trivial (ag h.o)
theorem ZM(hd:L[dp]?=some (.cells (fy lp wp ls.length cp lim false left x y z)))(f:L[lp]?=some (.cells (ls.map AV.str)))(g:L[wp]?=some (.map [] ck))(d:ls.length<=8192){k t a:Int}{K:aeh}(h:∀M,M[dp]?=some (.cells (fy lp wp ls.length cp lim false 0 x y z))->(∀j,j≠dp->j<L.length->M[j]?=L[j]?)->L.length<=M.length->K (.tup []) M):aeg 24 [.ptr dp 0,.agg [.int .u64 k,.int .i64 t,.int .i64 a]] L K:=by
 have a0:=(aei.1 hd).1;have e:∀X:List Blk,(L++X)[dp]?=some (.cells (fy lp wp ls.length cp lim false left x y z)):=λX=>by rw[aem a0];exact hd
 have kk1:Hid (∀{b:Blk}{K:aeh},(∀c,K (.tup []) (L++[b,c]))->aeg 59 [.ptr dp 0,.agg [.int .u64 k,.int .i64 t,.int .i64 a]] (L++[b]) K):=@hid _ (λ{b K} q=>abv (L:=L++[b]) (e _) (aed f) (aed g) d (λc=>by rw[aew];exact q c));have kk2:Hid (∀{X:List Blk}{K:aeh},K (.tup []) ((L++X).set dp (.cells (fy lp wp ls.length cp lim false 0 x y z)))->aeg 60 [.ptr dp 0] (L++X) K):=@hid _ (λ{X K} q=>adF (e X) q);have i:Hid (∀X,K (.tup []) ((L++X).set dp (.cells (fy lp wp ls.length cp lim false 0 x y z)))):=hid (λX=>h _ (aeQ (by simp;omega)) (λj l m=>by rw[aeo (Ne.symm l),aem m]) ahe);clear f g h a0;refine aef Gw ?_;intro c;refine wk ?_;exact GH rfl trivial (ag (i.o _))
end
theorem lS:∀(k n:Nat),n<256^k->bW (ev n k)=n
 |0,n,h=>by simp at h;subst h;rfl
 |k+1,n,h=>by rw[ev,PQ,lS k (n/256) (by rw[Nat.pow_succ]at h;omega)];have:(b8 n).toNat=n%256:=(by unfold b8;simp);omega
section
variable (sum:List UInt8->Nat)
def GZ(s:List UInt8):List UInt8:=s++List.replicate (124-s.length) 0
def nX(s:List UInt8):List UInt8:=ev (sum (GZ s)) 4++GZ s
def DM(s:List UInt8):Option (List UInt8):=if bW (s.take 4)=sum (s.drop 4)then some (s.drop 4)else none
variable {sum}
theorem YW{s:List UInt8}(h:s.length<=124):(GZ s).length=124:=by simp[GZ];omega
theorem Q3{s:List UInt8}(h:s.length<=124):(nX sum s).length=128:=by simp[nX,ff,YW h]
theorem Pu(a:∀s,sum s<2^32)(s:List UInt8):DM sum (nX sum s)=some (GZ s):=by
 have c:(nX sum s).take 4=ev (sum (GZ s)) 4:=by unfold nX;rw[List.take_append_of_le_length (by rw[ff];omega),aeO (by rw[ff];omega)]
 have b:(nX sum s).drop 4=GZ s:=by unfold nX;rw[List.drop_left' (ff _ 4)]
 unfold DM;rw[c,b,lS 4 _ (a _),if_pos rfl]
structure Cel where
 gen:Nat
 seq:Nat
 part:Nat
 parts:Nat
 data:List UInt8
def Oq(c:Cel):List UInt8:=67::(ev c.gen 4++(ev c.seq 4++(ev c.part 2++(ev c.parts 2++(ev c.data.length 1++c.data)))))
variable (sum)
def ft(c:Cel):List UInt8:=nX sum (Oq c)
def rdC(s:List UInt8):Option Cel:=match DM sum s with
 |none=>none
 | some r=>if r.getD 0 0≠67 then none else
   if 110<(s.getD 17 0).toNat\/bW ((s.drop 5).take 4)=0\/bW ((s.drop 15).take 2)<=bW ((s.drop 13).take 2)\/(s.drop (18+(s.getD 17 0).toNat)).all (· == 0)=false then none else
   if(bW ((s.drop 13).take 2)+1≠bW ((s.drop 15).take 2)/\(s.getD 17 0).toNat<110)\/(bW ((s.drop 13).take 2)+1=bW ((s.drop 15).take 2)/\(s.getD 17 0).toNat=0/\1<bW ((s.drop 15).take 2))then none else
   some ⟨bW ((s.drop 5).take 4),bW ((s.drop 9).take 4),bW ((s.drop 13).take 2),bW ((s.drop 15).take 2),(s.drop 18).take (s.getD 17 0).toNat⟩
structure Ww(c:Cel):Prop where
 gen:1<=c.gen/\c.gen<2^32
 seq:c.seq<2^32
 part:c.part<c.parts/\c.parts<2^16
 len:c.data.length<=110
 full:c.part+1<c.parts->c.data.length=110
 some:1<c.parts->c.data≠[]
variable {sum}
theorem ZV(c:Cel):(Oq c).length=14+c.data.length:=by simp[Oq,ff];omega
theorem VT(i:∀s,sum s<2^32){c:Cel}(h:Ww c):rdC sum (ft sum c)=some c:=by
 obtain⟨⟨g1,v⟩,q,⟨x,r⟩,l,f,n⟩:=h;have e:ft sum c=ev (sum (GZ (Oq c))) 4++(67::(ev c.gen 4++(ev c.seq 4++(ev c.part 2++(ev c.parts 2++(ev c.data.length 1++(c.data++List.replicate (124-(Oq c).length) 0))))))):=by simp only[ft,nX,GZ,Oq,ae6,aew]
 have o:DM sum (ft sum c)=some (GZ (Oq c)):=Pu i _;have u:(GZ (Oq c)).getD 0 0=67:=rfl;have k:bW (((ft sum c).drop 5).take 4)=c.gen:=by rw[e];exact lS 4 _ v
 have j:bW (((ft sum c).drop 9).take 4)=c.seq:=by rw[e];exact lS 4 _ q
 have w:bW (((ft sum c).drop 13).take 2)=c.part:=by rw[e];exact lS 2 _ ahd
 have t:bW (((ft sum c).drop 15).take 2)=c.parts:=by rw[e];exact lS 2 _ r
 have p:((ft sum c).getD 17 0).toNat=c.data.length:=by rw[e];show(b8 c.data.length).toNat=_;unfold b8;simp;omega
 have g:(ft sum c).drop 18=c.data++List.replicate (124-(Oq c).length) 0:=by rw[e];rfl
 have m:(ft sum c).drop (18+c.data.length)=List.replicate (124-(Oq c).length) 0:=by rw[<- afU,g,List.drop_left]
 unfold rdC;rw[o];simp only[u,k,j,w,t,p,g,m];rw[if_neg ahe,if_neg,if_neg,List.take_left];rintro(⟨a,b⟩|⟨a,b,d⟩);have:=f ahd;omega;exact n d (ae2.1 b);rintro(a|a|a|a);omega;omega;omega;simp at a
def hdB(gen half:Nat):List UInt8:=72::(ev gen 4++ev half 1)
variable (sum)
def yC(gen half:Nat):List UInt8:=nX sum (hdB gen half)
def rdH(s:List UInt8):Option (Nat×Nat):=match DM sum s with
 |none=>none
 |some r=>if r.getD 0 0≠72\/bW ((s.drop 5).take 4)=0\/1<(s.getD 9 0).toNat\/(s.drop 10).all (· == 0)=false then none else some (bW ((s.drop 5).take 4),(s.getD 9 0).toNat)
variable {sum}
theorem RK(c:∀s,sum s<2^32){gen half:Nat}(g:1<=gen/\gen<2^32)(h:half<=1):rdH sum (yC sum gen half)=some (gen,half):=by
 have e:yC sum gen half=ev (sum (GZ (hdB gen half))) 4++(72::(ev gen 4++(ev half 1++List.replicate (124-(hdB gen half).length) 0))):=by simp only[yC,nX,GZ,hdB,ae6,aew]
 have o:DM sum (yC sum gen half)=some (GZ (hdB gen half)):=Pu c _;have b:(GZ (hdB gen half)).getD 0 0=72:=rfl;have f:bW (((yC sum gen half).drop 5).take 4)=gen:=by rw[e];exact lS 4 _ g.2
 have d:((yC sum gen half).getD 9 0).toNat=half:=by rw[e];show(b8 half).toNat=_;unfold b8;simp;omega
 have i:(yC sum gen half).drop 10=List.replicate (124-(hdB gen half).length) 0:=by rw[e];rfl
 unfold rdH;rw[o];simp only[b,f,d,i];rw[if_neg];rintro(a|a|a|a);exact a rfl;omega;omega;simp at a
end
def cC(n:Nat):Nat:=max 1 ((n+109)/110)
def kM(gen seq parts:Nat):Nat->Nat->List UInt8->List Cel
 |0,_,_=>[]
 |n+1,i,b=>⟨gen,seq,i,parts,b.take 110⟩::kM gen seq parts n (i+1) (b.drop 110)
def vI(gen seq:Nat)(b:List UInt8):List Cel:=kM gen seq (cC b.length) (cC b.length) 0 b
section
variable {σ:Type}
def jJ(f:σ->Option Cel)(gen seq:Nat):List σ->Nat->Nat->List UInt8->Option (List UInt8×List σ)
 |[],k,parts,body=>if parts<=k then some (body,[])else none
 | s::r,k,parts,body=>if parts<=k then some (body,s::r) else match f s with
   |none=>none
   |some c=>if c.gen≠gen\/c.seq≠seq\/c.part≠k\/(0<k/\c.parts≠parts)then none else jJ f gen seq r (k+1) c.parts (body++c.data)
def gg(f:σ->Option Cel)(gen:Nat):Nat->List σ->List (List UInt8)->List (List UInt8)
 |0,_,out=>out
 |_+1,[],out=>out
 | n+1,s::r,out=>match jJ f gen out.length (s::r) 0 1 [] with
   |none=>out
   |some (b,t)=>gg f gen n t (out++[b])
theorem RC(gen seq parts:Nat):∀(n i:Nat) (b:List UInt8),(kM gen seq parts n i b).length=n
 |0,_,_=>rfl
 |n+1,i,b=>by rw[kM,aeB,RC]
theorem lY(gen seq:Nat)(b:List UInt8):(vI gen seq b).length=cC b.length:=RC ..
theorem TY{gen seq parts:Nat}(h:1<=gen/\gen<2^32)(g:seq<2^32)(f:parts<2^16):∀(n i:Nat) (b:List UInt8),i+n=parts->b.length<=110*n->(1<n->110*(n-1)<b.length)->(1<parts->n=1->b≠[])->∀c∈kM gen seq parts n i b,Ww c
 |0,_,_,_,_,_,_,c,a=>by cases a
 | n+1,i,b,e,h1,h2,h3,c,a=>by
   rw[kM,aeJ]at a;rcases a with rfl|a
   .refine⟨h,g,⟨by simp only;omega,f⟩,by simp;omega,λq=>?_,λq=>?_⟩
    .simp only at q;have:=h2 ahd;simp only[afg];omega
    .simp only at q⊢;intro z;have d:=congrArg List.length z;simp only[afg,aeY]at d;have j:b.length=0:=ahd;by_cases k:n=0
     .exact h3 q ahd (ae2.1 j)
     .have:=h2 ahd;omega
   .refine TY h g f n (i+1) (b.drop 110) ahd (by simp;omega) (λq=>?_) (λq r=>?_) c a
    .have:=h2 ahd;simp only[afu];omega
    .intro z;have d:=congrArg List.length z;simp only[afu,aeY]at d;have:=h2 ahd;omega
theorem Qn{gen seq:Nat}(d:1<=gen/\gen<2^32)(a:seq<2^32){b:List UInt8}(f:b.length<=262144):∀c∈vI gen seq b,Ww c:=by unfold vI;have e:cC b.length=max 1 ((b.length+109)/110):=rfl;refine TY d a ahd _ _ _ ahd ahd (λq=>ahd) (λq r=>ahd)
theorem Q9(f:σ->Option Cel)(gen seq parts:Nat):∀(n i d:Nat) (b c:List UInt8) (ss r:List σ),ss.map f=(kM gen seq parts n i b).map some->i+n=parts->(0<i->d=parts)->(i=0->d=1/\0<n)->b.length<=110*n->jJ f gen seq (ss++r) i d c=some (c++b,r)
 | 0,i,d,b,c,ss,r,hm,e,h1,h2,hb=>by
   have:ss=[]:=(by simpa[kM]using hm);subst this;have h:b=[]:=ae2.1 ahd;subst h;have l:d=parts:=h1 (by have:=h2;omega);cases r with
   |nil=>rw[ae5,jJ,if_pos ahd,aeL]
   |cons s r=>rw[ae5,jJ,if_pos ahd,aeL]
 |n+1,i,d,b,c,[],r,hm,e,h1,h2,hb=>by simp[kM]at hm
 | n+1,i,d,b,c,s::ss,r,hm,e,h1,h2,hb=>by
   rw[kM,aex,aex,agP]at hm;have g:¬d<=i:=by
    by_cases j:i=0
    .have:=h2 j;omega
    .have:=h1 ahd;omega
   rw[ae6,jJ,if_neg g,hm.1];simp only;rw[if_neg (by rintro(a|a|a|⟨a,k⟩);exact a rfl;exact a rfl;exact a rfl;exact k (h1 a).symm)];rw[Q9 f gen seq parts n (i+1) parts (b.drop 110) (c++b.take 110) ss r hm.2 ahd (λ_=>rfl) (λq=>ahd) (by simp;omega),aew,afH]
theorem WX(f:σ->Option Cel){gen seq:Nat}{b:List UInt8}{ss r:List σ}(h:ss.map f=(vI gen seq b).map some):jJ f gen seq (ss++r) 0 1 []=some (b,r):=by have e:cC b.length=max 1 ((b.length+109)/110):=rfl;have:=Q9 f gen seq (cC b.length) (cC b.length) 0 1 b [] ss r h ahd (λq=>absurd q (by decide)) (λ_=>⟨rfl,ahd⟩) ahd;rwa[ae5]at this
def gm(gen:Nat):Nat->List (List UInt8)->List Cel
 |_,[]=>[]
 |k,b::l=>vI gen k b++gm gen (k+1) l
theorem GN(n:Nat):0<cC n:=by unfold cC;omega
def acg(f:σ->Option Cel)(gen seq:Nat)(r:List σ):Prop:=∀s t,r=s::t->∀c,f s=some c->¬(c.gen=gen/\c.seq=seq/\c.part=0)
theorem WT(f:σ->Option Cel){gen:Nat}{a:List (List UInt8)}{r:List σ}(h:acg f gen a.length r):∀n,gg f gen n r a=a
 |0=>rfl
 | n+1=>by
   cases r with
   |nil=>rfl
   | cons s t =>
     rw[gg,jJ,if_neg (by decide)];cases hf:f s with
     |none=>rfl
     | some c =>
       simp only;rw[if_pos];have:=h s t rfl c hf;simp only[not_and]at this;by_cases b:c.gen=gen
       .by_cases h2:c.seq=a.length
        .exact .inr (.inr (.inl (this b h2)))
        .exact .inr (.inl h2)
       .exact .inl b
theorem SX(f:σ->Option Cel){gen:Nat}:∀(bs:List (List UInt8)) (a:List (List UInt8)) (ss r:List σ) (n:Nat),ss.map f=(gm gen a.length bs).map some->acg f gen (a.length+bs.length) r->bs.length<=n->gg f gen n (ss++r) a=a++bs
 |[],a,ss,r,n,hm,hs,hn=>by have:ss=[]:=(by simpa[gm]using hm);subst this;rw[ae5,aeL];exact WT f (by simpa using hs) n
 |b::bs,a,ss,r,0,hm,hs,hn=>by simp at hn
 | b::bs,a,ss,r,n+1,hm,hs,hn=>by
   rw[gm,aeD]at hm;obtain⟨c,g,rfl,d,h⟩:=List.map_eq_append_iff.1 hm;have i:c.length=cC b.length:=(by have:=congrArg List.length d;simpa[lY]using this);cases c with
   |nil=>have:=GN b.length;simp at i;omega
   | cons s c =>
     have e:=WX (f:=f) (r:=g++r) d;rw[aew]at *;rw[ae6]at e⊢;rw[gg,e];simp only;rw[SX f bs (a++[b]) g r n (by rw[h];simp) (by simp only[aez,aeB,aeY];rw[show a.length+(0+1)+bs.length=a.length+(b::bs).length by simp;omega];exact hs) (by simpa using hn),aew,agu]
end
end Go.Proofs.YtajkbcmleihaoaaGreatDoor.Av
