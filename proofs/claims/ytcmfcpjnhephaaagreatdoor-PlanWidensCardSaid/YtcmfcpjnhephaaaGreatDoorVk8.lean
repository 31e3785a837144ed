/- Joined texts of the walk, made small by a program. -/
import Derived.Test.YtcmfcpjnhephaaaGreatDoorVk4
import Derived.Test.YtcmfcpjnhephaaaGreatDoorRows
import Derived.KernelRfl
import Derived.Test.YtcmfcpjnhephaaaGreatDoorVk7
import Derived.Laws.Externs
import Derived.Lib.Overlaps
import Derived.Test.YtcmfcpjnhephaaaGreatDoorVk5
import Derived.Test.YtcmfcpjnhephaaaGreatDoorVk6
import Derived.Lib.IndexMore
import Derived.Maps.RangeRun
import Derived.Test.YtcmfcpjnhephaaaGreatDoorVk3
set_option linter.unusedSimpArgs false
set_option linter.unusedVariables false
set_option maxRecDepth 100000
namespace Go.Proofs.YtcmfcpjnhephaaaGreatDoor.Av
open Go
variable {L L2 L':List Blk}{K:ag7}{cap:Option Nat}{n f:List UInt8}{p b c i j ck it:Nat}{ts:List Typ}{s1 s2:AV}{id x:Int}{a:List Atr}{tys:List (List UInt8×Int)}{P:Int->Prop}{κ υ:Type}{B:Nat->Prop}
def DC:LSO:=[Ac 4 0,Af 5]
def DB:LSO:=[Aa 6 0,Aa 7 1,Ak 8 38 7,o1 9 (.call 145 [(tm 6),(tm 8),(.av (.func 146 []))]),Ar 10 9,Aw 11 9,Aa 4 10,Aa 5 11]
def gT:aO:=⟨12,(akg DC [] (akg DB C4 .ret)),[(.tmp 4),(.tmp 5)]⟩
attribute [push_cast] DC DB
theorem vw:akl 103=akm gT:=by kernel_rfl
def rk:LSO:=[A4 2 0,Ac 4 0]
def rj:LSO:=[Ad 5 0 2,Ab 6 1 5,Ak 7 38 6,Aa 8 1,Ax 9 126 7 8,Aa 4 9]
def fp:aO:=⟨10,(akg rk [] (akg rj Cu .ret)),[(.tmp 4)]⟩
attribute [push_cast] rk rj
theorem qu:akl 146=akm fp:=by kernel_rfl
def KG:LSO:=[Aj 4]
def KF:LSO:=[Aa 8 0,Aa 9 1,Ax 10 103 8 9,Aa 7 10,Ar 11 7,Aw 12 7,Aa 5 11,Aa 6 12]
def KE:LSO:=[Aa 13 6]
def KD:LSO:=[Aa 14 0,Aa 15 5,An 16 2 14 15,Ad 17 1 16,Ab 18 1 17,Ak 19 51 18,Aa 4 19]
def KC:LSO:=[Aj 4]
def fP:aO:=⟨20,(akg KG [] (.seq (akg KF C4 (akg KE [] (aki 13 (.sreg KD Cw)))) (akg KC [] .ret))),[(.tmp 4)]⟩
attribute [push_cast] KG KF KE KD KC
theorem qw:akl 52=akm fP:=by kernel_rfl
def wH:LSO:=[A4 2 0,Bv 4,Af 5]
def wG:LSO:=[Ap 6 2 2,o1 7 (.build [(.sl [] 0 (some 0)),(.sl [] 0 (some 0))] [(0,(2,(tm 6)))]),Aa 8 1,Ax 9 102 7 8,Ar 10 9,Aw 11 9,Ai 4 4 10,Aa 5 11]
def rC:aO:=⟨12,(akg wH [] (akg wG Cw .ret)),[(.cell true 4 4),(.tmp 5)]⟩
attribute [push_cast] wH wG
theorem OY:akl 49=akm rC:=by kernel_rfl
def nf:LSO:=[A4 2 0,A4 3 1,Bv 4,Af 5]
def mZ:LSO:=[Ad 7 0 2,Ad 8 0 7,Ab 9 1 8,o1 10 (.mkfn 143 [(tm 3)]),Ax 11 142 9 10,Aa 6 11]
def mY:LSO:=[Aa 12 6,AH 13 12 0]
def mX:LSO:=[o1 14 (.build [(.str []),(.int .i64 0),(.bool false),(.bool false)] []),Ai 4 4 14,Af 5]
def mW:LSO:=[Ad 15 0 2,Ad 16 0 15,Ab 17 1 16,Aa 18 6,An 19 4 17 18,Ap 20 4 19,Ai 4 4 20,A0 5]
def gW:aO:=⟨21,(akg nf [] (akg mZ Cu (.seq (akg mY Cq (aki 13 (.sreg mX Cq))) (akg mW Cw .ret)))),[(.cell true 4 4),(.tmp 5)]⟩
attribute [push_cast] nf mZ mY mX mW
theorem DQ:akl 102=akm gW:=by kernel_rfl
def jc:LSO:=[A4 2 0,Af 3]
def ja:LSO:=[Ad 4 0 2,Ab 5 1 4,Ab 6 1 1,Ax 7 144 5 6,Aa 3 7]
def fN:aO:=⟨8,(akg jc [] (akg ja Ct .ret)),[(.tmp 3)]⟩
attribute [push_cast] jc ja
theorem vu:akl 143=akm fN:=by kernel_rfl
def wF:LSO:=[Af 4]
def wD:LSO:=[Aa 5 0,Ak 6 38 5,Aa 7 1,Ak 8 38 7,AC 9 6 8,Aa 4 9]
def rB:aO:=⟨10,(akg wF [] (akg wD Cu .ret)),[(.tmp 4)]⟩
attribute [push_cast] wF wD
theorem OX:akl 144=akm rB:=by kernel_rfl
def df:LSO:=[Ac 4 0]
def de:LSO:=[Aa 6 0,Am 7 6,Ac 8 0]
def dd:LSO:=[Al 9 8 7]
def db:LSO:=[Aa 10 8,Aa 5 10]
def da:LSO:=[Aa 11 1,Aa 12 0,Aa 13 5,An 14 4 12 13,Ap 15 4 14,Bw 16 11 15]
def c8:LSO:=[Aa 17 5,Aa 4 17]
def c7:LSO:=[Ag 18 8 1,Aa 8 18]
def cZ:LSO:=[Ac 4 (-1)]
def cj:aO:=⟨19,(akg df [] (.seq (akg de Cv (akj 0 (akg dd [] (.seq (akk 9 0) (.seq (.block 1 (akg db Cq (akg da Cu (aki 16 (.sreg c8 Cq))))) (.sreg c7 Cq)))))) (akg cZ [] .ret))),[(.tmp 4)]⟩
attribute [push_cast] df de dd db da c8 c7 cZ
theorem fE:akl 142=akm cj:=by kernel_rfl
def bU:LSO:=[Ac 6 0,Af 7]
def bT:LSO:=[Aa 12 0,Am 13 12,Aa 8 13]
def bS:LSO:=[Aa 14 8,Ac 9 0,Aa 10 14]
def bR:LSO:=[Aa 15 9,Aa 16 10,Al 17 15 16]
def bQ:LSO:=[Aa 18 9,Aa 19 10,AY 20 18 19,o1 21 (.conv .u64 (tm 20)),o1 22 (.bin .shr (tm 21) (.av (.int .u64 1))),Bn 23 22,
 Aa 11 23]
def bP:LSO:=[Aa 24 2,Aa 25 0,Aa 26 11,An 27 2 25 26,Ap 28 2 27,Aa 29 1,o1 30 (.callv (tm 24) [(tm 28),(tm 29)]),AH 31 30 0]
def bO:LSO:=[Aa 32 11,Ag 33 32 1,Aa 9 33]
def bN:LSO:=[Aa 34 11,Aa 10 34]
def bM:LSO:=[Aa 35 9,Aa 36 9,Aa 37 8,Al 38 36 37,Aa 39 38,.grp none 39 true
 [Ae 40 39 2,Ae 41 39 0,Ae 42 39 9,BD 43 39 2 41 42,og 44 39 true (.load true 2 (tm 43)),Ae 45 39 1,og 46 39 true (.callv (tm 40) [(tm 44),(tm 45)]),Bb 47 39 46 0]
 48 (tm 47),Aa 6 35,Aa 7 48]
def ay:aO:=⟨49,(akg bU [] (akg bT Cr (akg bS Cv (.seq (akj 0 (.seq (akg bR Cr (akk 17 0)) (.block 1 (akg bQ Cw (akg bP Cx (akh 31 (.sreg bO Cr) (.sreg bN Cq))))))) (akg bM C4 .ret))))),[(.tmp 6),(.tmp 7)]⟩
attribute [push_cast] bU bT bS bR bQ bP bO bN bM
theorem bJ:akl 145=akm ay:=by kernel_rfl
def ef:LSO:=[Aj 2]
def ee:LSO:=[Aa 3 0,o1 4 (.slnil false (tm 3))]
def ed:LSO:=[Aj 2]
def d9:LSO:=[o1 5 (.bslice false 1 0 [] []),Aa 6 0,o1 7 (.app 2 1 16 [(.str [])] (tm 5) (tm 6)),Aa 2 7]
def aD:aO:=⟨8,(akg ef [] (.seq (akg ee Cq (aki 4 (.sreg ed []))) (akg d9 Cs .ret))),[(.tmp 2)]⟩
attribute [push_cast] ef ee ed d9
theorem cc:aR Tryz.prog (λr i=>if r=3/\i=2 then 2 else 1) 51=some aD.raw:=by kernel_rfl
attribute [push_cast] fP rC gW cj ay aD
set_option maxHeartbeats 8000000
set_option maxRecDepth 100000
def af3(L:List Blk)(C:List AV)(n s:Nat)(v:AV):Prop:=(∃cap,v=.sl C n cap)\/∃i cp rest,v=.lsl i 0 n cp s/\L[i]?=some (.cells (C++rest))
def agZ(f:FuncId)(caps:List AV)(L:List Blk)(el:Nat->AV)(tg:AV)(n:Nat)(c:Nat->Int):Prop:=∀(h:Nat) (K:AV->List Blk->Prop),h<n->K (.int .i64 (c h)) L->ag6 f ([el h,tg]++caps) L K
theorem agA{f:FuncId}{caps C:List AV}{n m:Nat}{tg v:AV}{c:Nat->Int}(hn:n<=1100000)(hC:C.length=n*2)(hm:m<=n)(hrow:af3 L C n 2 v)(hf:agZ f caps L (λh=>.agg ((C.drop (h*2)).take 2)) tg n c)(hc:∀h,h<n->(c h<0↔h<m))(h:K (.tup [.int .i64 (m:Nat),.bool (decide (m<n)&&decide (c m=0))]) L):
  ag6 145 [v,tg,.func f caps] L K:=by
 replace h:=hid h;replace hf:=hid hf;replace hc:=hid hc;rcases hrow with⟨cap,rfl⟩|⟨bi,cp,rest,rfl,hL⟩;refine ag5 bJ ?_;refine ak (λq T' L'=>∃a b:Nat,q=b-a/\a<=m/\m<=b/\b<=n/\T'=[(10,.int .i64 (b:Int)),(9,.int .i64 (a:Int)),(8,.int .i64 (n:Nat)),(0,.sl C n cap),(1,tg),(2,.func f caps)]/\L=L') (CutS (b:=ag9 _)) ⟨0,n,rfl,ahf _,hm,ag9 _,rfl,rfl⟩ ?_;rintro _ _ L' ⟨a,b,rfl,ham,hmb,hb,rfl,e⟩;subst e;by_cases hlt:a<b;have g1:(a:Int)<(b:Int):=by omega
 obtain⟨z,hz⟩:∃z,z=(a+b)/2:=⟨_,rfl⟩;have g2:IntKind.i64.wrap ((a:Int)+b)=(a:Int)+b:=ac (by omega) (by omega);have g3:IntKind.u64.wrap ((a:Int)+b)=(a:Int)+b:=QM (by omega) (by omega);have g4:Int.fdiv ((a:Int)+b) (2^(min 1 IntKind.u64.bits))=(z:Int):=by have:(2:Int)^(min 1 IntKind.u64.bits)=2:=(by decide);rw[this,Int.fdiv_eq_ediv_of_nonneg _ (by omega)];omega
 have g5:IntKind.i64.wrap (z:Int)=z:=ac (by omega) (by omega);have g6:=ag4 z (by omega);have g8:a<=z/\z<b:=by omega
 have g9:(z:Int)<(n:Int):=by omega
 have hzn:z<n:=by omega
 have hcz:=hc.out z hzn;have e2:z*2+2<=C.length:=by omega
 replace g8:=hid g8;replace hcz:=hid hcz;replace hC:=hid hC;clear hz;refine wk ?_;refine hf.out z _ hzn ?_;refine sk ?_;obtain⟨w,hw⟩:=ag2 (c z);rw[hw]at hcz;simp only[hw];by_cases hneg:w<0;have hzm:=hcz.out.1 hneg;clear hcz hw;have hg8:=g8.out;refine wk ?_;exact ah _ _ _ (by omega) (CutL (b:=by simp)) ⟨z+1,b,rfl,hzm,hmb,hb,rfl,rfl⟩;have hzm:m<=z:=by rcases aht z m with e|e;exact absurd (hcz.out.2 e) hneg;exact e
 clear hcz hw;have hg8:=g8.out;refine wk ?_;exact ah _ _ _ (by omega) (CutL (b:=by simp)) ⟨a,z,rfl,ham,hzm,by omega,rfl,rfl⟩;obtain rfl:a=m:=by omega
 obtain rfl:b=a:=by omega
 have g1:¬(b:Int)<(b:Int):=by omega
 by_cases hbn:b<n;have g2:(b:Int)<(n:Int):=by omega
 have h':=h.out;rw[decide_eq_true hbn,aia]at h';obtain⟨w,hw⟩:=ag2 (c b);rw[hw]at h';replace h':=hid h';have e2:b*2+2<=C.length:=by omega
 replace hC:=hid hC;have kk1:Hid (∀{K:ag7},K (.int .i64 w) L->ag6 f (AV.agg ((C.drop (b*2)).take 2)::tg::caps) L K):=hid λq=>hf.out b _ hbn (by rw[hw];exact q)
 refine wk ?_;exact aa h'.out;have g2:¬(b:Int)<(n:Int):=by omega
 have h':=h.out;rw[decide_eq_false hbn,aiE]at h';replace h':=hid h';refine wk ?_;exact aa h'.out;refine ag5 bJ ?_;refine ak (λq T' L'=>∃a b:Nat,q=b-a/\a<=m/\m<=b/\b<=n/\T'=[(10,.int .i64 (b:Int)),(9,.int .i64 (a:Int)),(8,.int .i64 (n:Nat)),(0,.lsl bi 0 n cp 2),(1,tg),(2,.func f caps)]/\L=L') (CutS (b:=ag9 _)) ⟨0,n,rfl,ahf _,hm,ag9 _,rfl,rfl⟩ ?_;rintro _ _ L' ⟨a,b,rfl,ham,hmb,hb,rfl,e⟩;subst e;by_cases hlt:a<b;have g1:(a:Int)<(b:Int):=by omega
 obtain⟨z,hz⟩:∃z,z=(a+b)/2:=⟨_,rfl⟩;have g2:IntKind.i64.wrap ((a:Int)+b)=(a:Int)+b:=ac (by omega) (by omega);have g3:IntKind.u64.wrap ((a:Int)+b)=(a:Int)+b:=QM (by omega) (by omega);have g4:Int.fdiv ((a:Int)+b) (2^(min 1 IntKind.u64.bits))=(z:Int):=by have:(2:Int)^(min 1 IntKind.u64.bits)=2:=(by decide);rw[this,Int.fdiv_eq_ediv_of_nonneg _ (by omega)];omega
 have g5:IntKind.i64.wrap (z:Int)=z:=ac (by omega) (by omega);have g6:=ag4 z (by omega);have g8:a<=z/\z<b:=by omega
 have g9:(z:Int)<(n:Int):=by omega
 have hzn:z<n:=by omega
 have hcz:=hc.out z hzn;have e1:((C++rest).drop (z*2)).take 2=(C.drop (z*2)).take 2:=by rw[List.drop_append_of_le_length (by omega),List.take_append_of_le_length (by simp;omega)]
 have e2:z*2+2<=C.length+rest.length:=by omega
 replace g8:=hid g8;replace hcz:=hid hcz;replace hC:=hid hC;clear hz;refine wk ?_;refine hf.out z _ hzn ?_;refine sk ?_;obtain⟨w,hw⟩:=ag2 (c z);rw[hw]at hcz;simp only[hw];by_cases hneg:w<0;have hzm:=hcz.out.1 hneg;clear hcz hw;have hg8:=g8.out;refine wk ?_;exact ah _ _ _ (by omega) (CutL (b:=by simp)) ⟨z+1,b,rfl,hzm,hmb,hb,rfl,rfl⟩;have hzm:m<=z:=by rcases aht z m with e|e;exact absurd (hcz.out.2 e) hneg;exact e
 clear hcz hw;have hg8:=g8.out;refine wk ?_;exact ah _ _ _ (by omega) (CutL (b:=by simp)) ⟨a,z,rfl,ham,hzm,by omega,rfl,rfl⟩;obtain rfl:a=m:=by omega
 obtain rfl:b=a:=by omega
 have g1:¬(b:Int)<(b:Int):=by omega
 by_cases hbn:b<n;have g2:(b:Int)<(n:Int):=by omega
 have h':=h.out;rw[decide_eq_true hbn,aia]at h';obtain⟨w,hw⟩:=ag2 (c b);rw[hw]at h';replace h':=hid h';have e1:((C++rest).drop (b*2)).take 2=(C.drop (b*2)).take 2:=by rw[List.drop_append_of_le_length (by omega),List.take_append_of_le_length (by simp;omega)]
 have e2:b*2+2<=C.length+rest.length:=by omega
 replace hC:=hid hC;have kk1:Hid (∀{K:ag7},K (.int .i64 w) L->ag6 f (AV.agg ((C.drop (b*2)).take 2)::tg::caps) L K):=hid λq=>hf.out b _ hbn (by rw[hw];exact q)
 refine wk ?_;exact aa h'.out;have g2:¬(b:Int)<(n:Int):=by omega
 have h':=h.out;rw[decide_eq_false hbn,aiE]at h';replace h':=hid h';refine wk ?_;exact aa h'.out
variable {L:List Blk}{K:ag7}
theorem aaf(h:K (.sl [] 0 (some 0)) L):ag6 51 [.sl [] 0 cap] L K:=by
 refine ad cc (by simp[aD]) ?_;simp only[aD,am]
 repeat' first
  |refine br ?_
  | (first|refine bh (by kernel_rfl) ?_|refine aH (by kernel_rfl) ?_|refine aK ?_|refine cO ?_|refine bB (fun _=>?_)|refine aB ?_|refine bm ?_)
    refine sm ?_
  | (first|refine a8 (by kernel_rfl) ?_|refine bc ?_|refine aJ ?_|refine bj ?_|refine bG (aA ?_))
    refine sl ?_
  |exact bC
  |first|apply bD|apply be|apply bE|apply bf|apply bF|apply bg
  |refine aN ?_
  |refine aI ?_
  |first|refine aL rfl ?_|refine aM rfl ?_|refine aw rfl ?_ ?_|refine aQ rfl (λ_=>?_) (λ_=>?_)|refine aP rfl (λ_=>?_) (λ_=>?_)
  |((first|refine au (λ_=>?_) (λ_=>?_)|refine az (λ_=>?_) (λ_=>?_))<;>try refine sm ?_)
  |refine And.intro trivial ?_
  |refine And.intro (by omega) ?_
  |refine aU rfl (λ_=>?_) (λ_=>?_)
  |refine And.intro ?_ ?_
 all_goals (first|refine ae rfl (Kto h ?_)|refine aa (Kto h ?_)|refine ae (by simp only[AV.refs,AV.refsL, *];rfl) (Kto h ?_)|refine ba (ae rfl (Kto h ?_))|(trace_state;fail))
 all_goals (first|(simp[*];done)|(simp[*];omega)|(simp[*];intros;omega)|(simp_all[Hid,Hid];done)|(simp_all[Hid,Hid];omega))
theorem acK{xs:List (List UInt8)}(h0:xs.length≠0)(hn:xs.length<=1100000)(h:K (.lsl L.length 0 xs.length none 1) (L++[.cells (xs.map AV.str)])):
  ag6 51 [.sl (xs.map AV.str) xs.length cap] L K:=by
 have h1:=abw xs;refine ag5 cc ?_;refine QG L.length (.cells (xs.map AV.str)) rfl (ag9 _) (by simp) (by simp[AV.refs]) (hP _ _) ?_;simpa[AV.ren]using h
abbrev a7(s:List UInt8):Prop:=(s.length:Int)<=140737488351232
theorem acI(a b:List UInt8):Lib.compareBytes a b<0↔a<b:=by rw[UV];by_cases h:a<b;simp[h];by_cases h2:b<a<;>simp[h,h2]
theorem aae(a b:List UInt8):Lib.compareBytes a b=0↔a=b:=by rw[UV];by_cases h:a<b;simp only[h,if_true];exact⟨λe=>by omega,λe=>by subst e;exact absurd h (aio _)⟩;by_cases h2:b<a;simp only[h,h2,if_true,if_false];exact⟨λe=>by omega,λe=>by subst e;exact absurd h2 (aio _)⟩;simp only[h,h2,if_false,true_iff];exact ajY (aiw.1 h2) (aiw.1 h)
def ae3(w:AV):Prop:=(∃l n cap,w=.sl l n cap)\/∃i off n cp s,w=.lsl i off n cp s
theorem abp{x:List UInt8}{w:AV}(hx:a7 x)(hw:ae3 w)(h:K (.int .i64 (Lib.compareBytes (af x) n)) L):
  ag6 146 [.agg [.str x,w],.str n] L K:=by
 replace h:=hid h;rcases hw with⟨l,m,cap,rfl⟩|⟨i,off,m,cp,s,rfl⟩;refine ad qu (by simp[fp]) ?_;simp only[fp,am];have kk1:=@hid _ (λL K=>fC hx (L:=L) (K:=K));have kk2:=@hid _ @QT;refine wk ?_;exact ae rfl h.out;refine ad qu (by simp[fp]) ?_;simp only[fp,am];have kk1:=@hid _ (λL K=>fC hx (L:=L) (K:=K));have kk2:=@hid _ @QT;refine wk ?_;exact ae rfl h.out
def agQ(l:List Atr)(C:List AV):Prop:=C.length=l.length*2/\∀h:Nat,h<l.length->∃w,ae3 w/\(C.drop (h*2)).take 2=[.str (l.getD h ([],[])).1,w]
def ZZ{α:Type}(key:α->List UInt8)(l:List α)(k:List UInt8):Bool:=l.any λa=>decide (key a=k)
theorem XG{α:Type}{key:α->List UInt8}{l:List α}{k:List UInt8}(hr:lp key l){d:α}:ZZ key l k=(decide (gq key l k<l.length)&&decide (key (l.getD (gq key l k) d)=k)):=by rw[ZZ,aad hr];by_cases hc:gq key l k<l.length;rw[ahn hc,decide_eq_true hc,aia];simp[hc];rw[aip (by omega),decide_eq_false hc];rfl
theorem ad1{l:List Atr}{C:List AV}{v:AV}(hl:l.length<=1100000)(hC:agQ l C)(hrow:af3 L C l.length 2 v)(hr:lp dQ l)(hn:a7 n)(hz:∀a∈l,a7 a.1)(h:K (.tup [.int .i64 (gq dQ l (af n):Nat),.bool (ZZ dQ l (af n))]) L):
  ag6 103 [v,.str n] L K:=by
 have hbs:∀{K:ag7},K (.tup [.int .i64 (gq dQ l (af n):Nat),.bool (ZZ dQ l (af n))]) L->ag6 145 [v,.str (af n),.func 146 []] L K:=λ{K} q=>by refine agA (m:=gq dQ l (af n)) (c:=λh=>Lib.compareBytes (dQ (l.getD h ([],[]))) (af n)) hl hC.1 (YA _ _ _) hrow (λh K hh hk=>?_) (λh hh=>?_) ?_;obtain⟨w,hw,e⟩:=hC.2 h hh;simp only[e];refine abp (hz _ ?_) hw hk;simp[hh];simp only[acI];have:=acH (key:=dQ) (k:=af n) hr h hh;simpa[hh]using this;have:=XG (key:=dQ) (k:=af n) hr (d:=([],[]));rw[this]at q;simpa only[aae]using q
 replace hbs:=@hid _ @hbs;replace h:=hid h;rcases hrow with⟨cap,rfl⟩|⟨bi,cp,rest,rfl,hL⟩;refine ad vw (by simp[gT]) ?_;simp only[gT,am];have kk2:=@hid _ @hbs.out;have kk1:=@hid _ (λL K=>fC hn (L:=L) (K:=K));refine wk ?_;exact aa h.out;refine ad vw (by simp[gT]) ?_;simp only[gT,am];have kk2:=@hid _ @hbs.out;have kk1:=@hid _ (λL K=>fC hn (L:=L) (K:=K));refine wk ?_;exact aa h.out
abbrev tyC(ty:Typ):List AV:=[.str ty.1,.int .i64 ty.2.1,.bool ty.2.2.1,.bool ty.2.2.2]
def cG(ts:List Typ):List AV:=ts.flatMap tyC
theorem Mn(ts:List Typ):(cG ts).length=ts.length*4:=by
 induction ts with
 |nil=>rfl
 |cons a l ih=>simp only[cG,aif,ahq,tyC,ahj,ahX]at ih⊢;omega
abbrev oM:Typ:=([],0,false,false)
theorem Iw:∀{ts:List Typ}{k:Nat},k<ts.length->((cG ts).drop (k*4)).take 4=tyC (ts.getD k oM)
 |a::l,0,_=>rfl
 |a::l,k+1,h=>by have ih:=@Iw l k (by simpa using h);rw[show(k+1)*4=k*4+1+1+1+1 by omega];simpa[cG,tyC]using ih
theorem afx{a b:List UInt8}(ha:a7 a)(hb:a7 b)(h:K (.bool (decide (af a=af b))) L):ag6 144 [.str a,.str b] L K:=by replace h:=hid h;refine ad OX (by simp[rB]) ?_;simp only[rB,am];have kk1:=@hid _ (λL K=>fC ha (L:=L) (K:=K));have kk2:=@hid _ (λL K=>fC hb (L:=L) (K:=K));refine wk ?_;exact aa h.out
theorem ad9{ty:Typ}(ha:a7 ty.1)(hn:a7 n)(hp:L[p]?=some (.cells [.str n]))(h:K (.bool (decide (af ty.1=af n))) L):
  ag6 143 [.agg (tyC ty),.ptr p 0] L K:=by
 replace h:=hid h;have hp2:∀X:List Blk,(L++X)[p]?=some (.cells [.str n]):=λX=>by rw[ahi (ag8.1 hp).1];exact hp
 refine ad vu (by simp[fN]) ?_;simp only[fN,am];have kk1:=@hid _ (λL K=>afx ha hn (L:=L) (K:=K));refine wk ?_;exact ae rfl h.out
theorem afH{f:FuncId}{caps:List AV}{q:Typ->Bool}(hn:ts.length<=1100000)(hf:∀(ty:Typ) (K:AV->List Blk->Prop),ty∈ts->K (.bool (q ty)) L->ag6 f (.agg (tyC ty)::caps) L K)(h1:(∀ty∈ts,q ty=false)->K (.int .i64 (-1)) L)(h2:∀k:Nat,k<ts.length->(∀j,j<k->q (ts.getD j oM)=false)->q (ts.getD k oM)=true->K (.int .i64 k) L):
  ag6 142 [.sl (cG ts) ts.length cap,.func f caps] L K:=by
 replace hf:=hid hf;replace h1:=hid h1;replace h2:=hid h2;refine ag5 fE ?_;refine ak (λn T' L'=>∃k:Nat,n=ts.length-k/\k<=ts.length/\T'=[(8,.int .i64 (k:Int)),(7,.int .i64 ts.length),(0,.sl (cG ts) ts.length cap),(1,.func f caps)]/\L=L' /\
  ∀j,j<k->q (ts.getD j oM)=false) (CutS (b:=ag9 _)) ⟨0,rfl,ahf _,rfl,rfl,by simp⟩ ?_
 rintro _ _ L' ⟨k,rfl,hk,rfl,e,hr⟩;subst e;replace hr:=hid hr;by_cases hlt:k<ts.length;have g1:(k:Int)<(ts.length:Int):=by omega
 have g2:=ag4 k (by omega);have e4:k*4+4<=(cG ts).length:=by rw[Mn];omega
 have e3:=Iw hlt;obtain⟨ty,hty⟩:=ag2 (ts.getD k oM);have hm:ty∈ts:=by rw[<- hty];simp[hlt]
 rw[hty]at e3;replace hty:=hid hty;rcases hqk:q ty with _|_;have kk1:Hid (∀{K:ag7},K (.bool false) L->ag6 f (.agg (tyC ty)::caps) L K):=hid λa=>hf.out ty _ hm (by rw[hqk];exact a)
 replace hqk:=hid hqk;simp only[tyC]at kk1 e3;refine wk ?_;refine ah _ _ _ (by omega) (CutL (b:=by simp)) ⟨k+1,rfl,hlt,rfl,rfl,λj hj=>?_⟩;rcases aht j k with h|h;exact hr.out j h;have:j=k:=by omega
 subst this;rw[hty.out];exact hqk.out;have kk1:Hid (∀{K:ag7},K (.bool true) L->ag6 f (.agg (tyC ty)::caps) L K):=hid λa=>hf.out ty _ hm (by rw[hqk];exact a)
 replace hqk:=hid hqk;simp only[tyC]at kk1 e3;refine wk ?_;exact aa (h2.out k hlt hr.out (by rw[hty.out];exact hqk.out));have g1:¬(k:Int)<(ts.length:Int):=by omega
 refine wk ?_;refine aa (h1.out λty hty=>?_);obtain⟨j,hj,e⟩:=aiq.1 hty;have:=hr.out j (by omega);simpa[hj,e]using this
def PY(o:Option Typ):AV:=.tup [.agg (tyC (o.getD oM)),.bool o.isSome]
theorem LT{α:Type}{q:α->Bool}{d:α}:∀{l:List α}{k:Nat},k<l.length->(∀j,j<k->q (l.getD j d)=false)->q (l.getD k d)=true->l.find? q=some (l.getD k d)
 |a::t,0,_,_,h=>by simp only[aig]at h⊢;rw[aim,h]
 |a::t,k+1,hk,hp,h=>by have h0:=hp 0 (by omega);simp only[aig]at h0;rw[aim,h0];simp only[aiR]at h⊢;exact LT (by simpa using hk) (λj hj=>by simpa using hp (j+1) (by omega)) h
theorem afC{capT:Option Nat}{c2:List AV}{n2:Nat}{cap2:Option Nat}(hl:ts.length<=1100000)(hts:∀t∈ts,a7 t.1)(hn:a7 n)(h:K (PY (fw ts n)) L):
  ag6 102 [.agg [.sl (cG ts) ts.length capT,.sl c2 n2 cap2],.str n] L K:=by
 replace h:=hid h;refine ag5 DQ ?_;refine afH (q:=λt=>decide (af t.1=af n)) hl (λty K hm hk=>?_) (λhno=>?_) (λk hk hp hq=>?_);exact ad9 (hts ty hm) hn (by simp) hk;have e:fw ts n=none:=ajZ.2 λt ht=>by simpa using hno t ht
 rw[e]at h;simp only[PY,ajN,aiG,tyC]at h;refine sk ?_;refine wk ?_;exact ae rfl h.out;have e:fw ts n=some (ts.getD k oM):=LT (d:=oM) hk hp hq;have e4:k*4+4<=(cG ts).length:=by rw[Mn];omega
 have e3:=Iw hk;have g1:¬(k:Int)<0:=by omega
 have g2:(k:Int)<(ts.length:Int):=by omega
 obtain⟨ty,hty⟩:=ag2 (ts.getD k oM);rw[hty]at e e3;rw[e]at h;simp only[PY,aie,aiM,tyC]at h e3;clear hp hq hty e;refine sk ?_;refine wk ?_;exact ae rfl h.out
theorem afO{capT:Option Nat}{c2:List AV}{n2:Nat}{cap2:Option Nat}(hl:ts.length<=1100000)(hts:∀t∈ts,a7 t.1)(hn:a7 n)(h:K (PY (fw ts n)) L):
  ag6 49 [.agg [.sl (cG ts) ts.length capT,.sl c2 n2 cap2],.str n] L K:=by
 unfold PY at h;refine ag5 OY ?_;refine afC hl hts hn ?_;unfold PY;obtain⟨ty,hty⟩:=ag2 ((fw ts n).getD oM);obtain⟨b,hb⟩:=ag2 ((fw ts n).isSome);rw[hty,hb]at h⊢;replace h:=hid h;refine sk ?_;refine wk ?_;exact ae rfl h.out
abbrev PAt:=Nat×Atr
variable {ps:List PAt}
abbrev pC(q:PAt):List AV:=[.str q.2.1,.lsl q.1 0 q.2.2.length none 1]
def psC(ps:List PAt):List AV:=ps.flatMap pC
abbrev noP:PAt:=(0,[],[])
def Sv(L:List Blk)(b p:Nat)(s1 s2:AV)(ps:List PAt):Prop :=
 b<=p/\(ps.map (·.1)).Nodup/\(∀q∈ps,b<=q.1/\q.1≠p/\∃rest,L[q.1]?=some (.cells (q.2.2.map AV.str++rest))) /\
 ((L[p]?=some (.cells [s1,s2,.sl [] 0 (some 0)])/\ps=[])\/∃r rest,L[p]?=some (.cells [s1,s2,.lsl r 0 ps.length none 2])/\L[r]?=some (.cells (psC ps++rest))/\b<=r/\r≠p/\∀q∈ps,q.1≠r)
theorem Sv.row(h:Sv L b p s1 s2 ps):∃row,L[p]?=some (.cells [s1,s2,row])/\af3 L (psC ps) ps.length 2 row/\(row=.sl [] 0 (some 0)/\ps=[]\/∃r rest,row=.lsl r 0 ps.length none 2/\L[r]?=some (.cells (psC ps++rest))/\b<=r/\r≠p/\∀q∈ps,q.1≠r):=by obtain⟨_,_,_,h4⟩:=h;rcases h4 with⟨h1,rfl⟩|⟨r,rest,h1,h2,h3⟩;exact⟨_,h1,.inl ⟨some 0,rfl⟩,.inl ⟨rfl,rfl⟩⟩;exact⟨_,h1,.inr ⟨r,none,rest,rfl,h2⟩,.inr ⟨r,rest,rfl,h2,h3⟩⟩
def Kpt(b:Nat)(L L':List Blk):Prop:=b<=L'.length/\∀k,k<b->L'[k]?=L[k]?
theorem Kpt.trans{L1:List Blk}(h:Kpt b L L1)(k:Kpt b L1 L2):Kpt b L L2:=⟨k.1,λi hi=>(k.2 i hi).trans (h.2 i hi)⟩
theorem Kpt.app(h:b<=L.length)(X:List Blk):Kpt b L (L++X):=⟨by simp;omega,λk hk=>by rw[ahi (by omega)]⟩
theorem Kpt.eq(h:Kpt b L L')(hb:b=L.length):∃X,L'=L++X:=by refine⟨L'.drop L.length,?_⟩;apply aiB;intro i;rw[aik];split;rename_i hi;rw[h.2 i (by omega)];rw[ah3];congr 1;omega
theorem adw{l:List Atr}(hr:lp dQ l):dM l n=if ZZ dQ l (af n)=true then(l.getD (gq dQ l (af n)) ([],[])).2 else[]:=by rw[Ul n l hr,XG hr (d:=([],[]))];by_cases hc:gq dQ l (af n)<l.length;rw[ahn hc];simp[hc];rw[aip (by omega)];simp[hc]
theorem aao{syn:Int}{single:Bool}{l:List (List UInt8)}{v:List UInt8}{vs:List (List UInt8)}(h:dh syn v=none):eS syn single l (v::vs)=([],21):=by rw[eS,h]
theorem aan{syn:Int}{single:Bool}{l:List (List UInt8)}{v:List UInt8}{vs:List (List UInt8)}(h:dh syn v=some n):eS syn single l (v::vs)=if inM syn l n=true then([],20)else eS syn single (gN syn v false l) vs:=by rw[eS,h]
theorem Sv.frame(h:Sv L b p s1 s2 ps)(hf:∀k,k<L.length->L'[k]?=L[k]?):Sv L' b p s1 s2 ps:=by
 have up:∀(i:Nat) (k:Blk),L[i]?=some k->L'[i]?=some k:=λi k hk=>by rw[hf i (ag8.1 hk).1];exact hk
 obtain⟨h1,h2,h3,h4⟩:=h;refine⟨h1,h2,λq hq=>?_,?_⟩;obtain⟨a,c,rest,d⟩:=h3 q hq;exact⟨a,c,rest,up _ _ d⟩;rcases h4 with⟨a,c⟩|⟨r,rest,a,c,d⟩;exact .inl ⟨up _ _ a,c⟩;exact .inr ⟨r,rest,up _ _ a,up _ _ c,d⟩
theorem Zw{l:List Nat}{x:Nat}(h:l.Nodup)(hx:∀i:Nat,i≠c->l[i]?≠some x):(l.set c x).Nodup:=by rw[List.nodup_iff_pairwise_ne,aj0]at h⊢;intro i j hi hj hij;simp only[aj1]at hi hj;rw[List.getElem_set,List.getElem_set];split;rename_i e1;rw[if_neg (by omega)];intro e;exact hx j (by omega) (by rw[ahn hj,e]);split;intro e;exact hx i (by omega) (by rw[ahn hi,<- e]);exact h i j hi hj hij
theorem PP{α:Type}{l:List α}{x q:α}(h:q∈l.set c x):q=x\/∃i,i≠c/\l[i]?=some q:=by obtain⟨i,hi⟩:=aiW.1 h;rw[ahv]at hi;split at hi;split at hi;cases hi;exact .inl rfl;cases hi;rename_i e;exact .inr ⟨i,λe'=>e e'.symm,hi⟩
theorem Yu(h:(ps.map (·.1)).Nodup){q a:PAt}(hi:ps[i]?=some q)(hc:ps[c]?=some a)(hne:i≠c):q.1≠a.1:=λe=>by obtain⟨h1,rfl⟩:=ag8.1 hi;obtain⟨h2,rfl⟩:=ag8.1 hc;rw[List.nodup_iff_pairwise_ne,aj0]at h;rcases Nat.lt_or_gt_of_ne hne with h3|h3;exact h i c (by simpa using h1) (by simpa using h2) h3 (by simpa using e);exact h c i (by simpa using h2) (by simpa using h1) h3 (by simpa using e.symm)
theorem Sv.vals{u:List (List UInt8)}{rest:List AV}(h:Sv L b p s1 s2 ps)(hc:c<ps.length){l0 jat:Nat}(hl0:L.length<=l0)(hjat:jat=(ps.getD c noP).1)(hfr:∀k,k<l0->k≠jat->L'[k]?=L[k]?\/L.length<=k)(hj:j=jat\/l0<=j)(hLj:L'[j]?=some (.cells (u.map AV.str++rest))){r:Nat}{rest2:List AV}(hLp:L[p]?=some (.cells [s1,s2,.lsl r 0 ps.length none 2]))(hLr:L[r]?=some (.cells (psC ps++rest2)))(hbr:b<=r)(hrp:r≠p)(hqr:∀q∈ps,q.1≠r)(h2:L2=L'.set r (.cells (psC (ps.set c (j,(ps.getD c noP).2.1,u))++rest2))):Sv L2 b p s1 s2 (ps.set c (j,(ps.getD c noP).2.1,u)):=by
 obtain⟨g1,g2,g3,g4⟩:=h;have hcg:ps[c]?=some (ps.getD c noP):=by simp[hc]
 have hm:ps.getD c noP∈ps:=ahN hcg;have lt:∀(i:Nat) (k:Blk),L[i]?=some k->i<L.length:=λi k hk=>(ag8.1 hk).1
 obtain⟨m1,m2,mr,m3⟩:=g3 _ hm;rw[<- hjat]at m1 m2 m3;have hjl:=lt _ _ m3;have hrl:=lt _ _ hLr;have hpl:=lt _ _ hLp;have keep:∀k,k<L.length->k≠jat->k≠r->L2[k]?=L[k]?:=λk hk hkj hkr=>by rw[h2,ahx (Ne.symm hkr)];rcases hfr k (by omega) hkj with e|e;exact e;omega
 have hrj:r≠jat:=by rw[hjat];exact(hqr _ hm).symm
 have hjr:j≠r:=by rcases hj with e|e<;>omega
 have hrl':r<L'.length:=by rcases hfr r (by omega) hrj with e|e;rw[hLr]at e;exact(ag8.1 e).1;omega
 refine⟨g1,?_,λq hq=>?_,.inr ⟨r,rest2,?_,?_,hbr,hrp,λq hq=>?_⟩⟩;rw[List.map_set];refine Zw g2 λi hi e=>?_
 rw[ahS,ahA]at e;obtain⟨q,e1,e2⟩:=e;have:=Yu g2 e1 hcg hi;rw[<- hjat]at this;obtain⟨_,_,_,q3⟩:=g3 q (ahN e1);have:=lt _ _ q3;omega;rcases PP hq with rfl|⟨i,hi,e⟩;refine⟨by simp only;omega,?_,rest,?_⟩;simp only;rcases hj with e|e;rw[e];exact m2;omega;simp only;rw[h2,ahx (Ne.symm hjr)];exact hLj;obtain⟨q1,q2,qr,q3⟩:=g3 q (ahN e);have hne:=Yu g2 e hcg hi;rw[<- hjat]at hne;refine⟨q1,q2,qr,?_⟩;rw[keep _ (lt _ _ q3) hne (hqr q (ahN e))];exact q3;rw[keep p hpl (λe=>m2 e.symm) (Ne.symm hrp),aj1];exact hLp;rw[h2];simp[hrl'];rcases PP hq with rfl|⟨i,hi,e⟩;exact hjr;exact hqr q (ahN e)
theorem Sv.more{r:Nat}{u:List (List UInt8)}{rest:List AV}(h:Sv L b p s1 s2 ps)(hc:c<=ps.length)(hkeep:∀q∈ps,L2[q.1]?=L[q.1]?)(hjb:b<=j)(hjp:j≠p)(hjq:∀q∈ps,q.1≠j)(hLj:L2[j]?=some (.cells (u.map AV.str++rest)))(hLp:L2[p]?=some (.cells [s1,s2,.lsl r 0 (ps.length+1) none 2]))(hLr:L2[r]?=some (.cells (psC (ps.take c++(j,n,u)::ps.drop c))))(hbr:b<=r)(hrp:r≠p)(hrj:j≠r)(hqr:∀q∈ps,q.1≠r):
  Sv L2 b p s1 s2 (ps.take c++(j,n,u)::ps.drop c):=by
 obtain⟨g1,g2,g3,g4⟩:=h;have hperm:(ps.take c++(j,n,u)::ps.drop c).Perm ((j,n,u)::ps):=Q8 ps c _;refine⟨g1,?_,λq hq=>?_,.inr ⟨r,[],?_,by rw[ahG];exact hLr,hbr,hrp,λq hq=>?_⟩⟩;refine((hperm.map (·.1)).nodup_iff).2 ?_;simp only[ahl,ah6];refine⟨λhm=>?_,g2⟩;obtain⟨q,hq,e⟩:=ahd.1 hm;exact hjq q hq e;rcases IB.1 hq with rfl|hq;exact⟨hjb,hjp,rest,hLj⟩;obtain⟨q1,q2,qr,q3⟩:=g3 q hq;exact⟨q1,q2,qr,by rw[hkeep q hq];exact q3⟩;have:(ps.take c++(j,n,u)::ps.drop c).length=ps.length+1:=by simpa using hperm.length_eq
 rw[this];exact hLp;rcases IB.1 hq with rfl|hq;exact hrj;exact hqr q hq
def agF(ts:List Typ):Prop:=ts.length<=1100000/\(∀ty∈ts,a7 ty.1)/\∀ty∈ts,fw ts ty.1=some ty
theorem QQ{n:List UInt8}{vs:List (List UInt8)}{a:Atr}:∀{d:Bool}{l:List Atr},a∈pU n vs d l->a=(n,vs)\/a∈l
 | d,[],h=>by
   rw[pU]at h;split at h
   .cases h
   .simp at h;exact .inl h
 | d,x::t,h=>by
   rw[pU,ahb,ahb]at h;rcases h with(h|h)|h
   .split at h
    .simp at h;exact .inl h
    .cases h
   .split at h
    .simp at h;exact .inr (by simp[h])
    .cases h
   .rcases QQ h with e|e
    .exact .inl e
    .exact .inr (by simp[e])
theorem Un{n:List UInt8}{vs:List (List UInt8)}:∀{d:Bool}{l:List Atr},(pU n vs d l).length<=l.length+(if d=true then 0 else 1)
 |d,[]=>by rw[pU];split<;>simp
 | d,x::t=>by
   have ih:=@Un n vs (d || !decide (af x.1<af n)) t;rw[pU];simp only[ahq,ahj];have h1:(if af n≠af x.1 then[x]else[]).length<=1:=(by split<;>simp);obtain⟨z,hz⟩:=ag2 ((if af n≠af x.1 then[x]else[]).length);rw[hz]at h1⊢;cases d with
   | true =>
     simp only[aij,false_and,if_false,ahX,ajk,if_true]at ih⊢;omega
   | false =>
     by_cases hx:af x.1<af n
     .simp only[hx,decide_true,aiH,Bool.or_self,ahp,if_false]at ih⊢;simp;omega
     .simp only[hx,decide_false,aiX,ajB,if_true]at ih⊢;simp;omega
theorem aaF{l:List Atr}{m:Nat}(h:∀a∈l,a.2.length<=m):(dM l n).length<=m:=by
 induction l with
 |nil=>simp[dM]
 | cons a l ih =>
   rw[dM];split
   .exact h a (by simp)
   .exact ih λb hb=>h b (by simp[hb])
theorem acS(l:List Atr):agQ l (bo l):=by exact⟨oK l,λh hh=>⟨LE (l.getD h ([],[])).2,.inl ⟨_,_,_,rfl⟩,pK hh⟩⟩
theorem acx{l:List Atr}(hl:l.length<=1100000)(hr:lp dQ l)(hz:∀a∈l,a7 a.1/\a.2.length<=1100000)(hn:a7 n)(h:K (LE (dM l n)) L):
  ag6 52 [.sl (bo l) l.length cap,.str n] L K:=by
 obtain⟨c,hc⟩:=ag2 (gq dQ l (af n));obtain⟨fd,hfd⟩:=ag2 (ZZ dQ l (af n));have hv:=adw (n:=n) hr;rw[hfd,hc]at hv;rw[hv]at h;have hpc:∀{K:ag7},K (.tup [.int .i64 c,.bool fd]) L->ag6 103 [.sl (bo l) l.length cap,.str n] L K:=λ{K} q =>
  ad1 hl (acS l) (.inl ⟨cap,rfl⟩) hr hn (λa ha=>(hz a ha).1) (by rw[hc,hfd];exact q)
 have kk1:=@hid _ @hpc;clear hpc;rcases fd with _|_;rw[if_neg (by simp)]at h;replace h:=hid h;refine ag5 qw ?_;exact ba (aa h.out);rw[if_pos rfl]at h;have h0:=XG (key:=dQ) (k:=af n) hr (d:=([],[]));rw[hfd,hc]at h0;have h1:c<l.length:=by simpa using((ahe _ _).mp h0.symm).1
 have e5:=acR h1;have hm:l.getD c ([],[])∈l:=by simp[h1]
 have hln:=(hz _ hm).2;obtain⟨vs,hvs⟩:=ag2 ((l.getD c ([],[])).2);rw[hvs]at h e5 hln;have e6:(c:Int)<(l.length:Int):=by omega
 have e7:c*2+1<(bo l).length:=by rw[oK];omega
 replace h:=hid h;clear h0 hm hvs hv hfd hc;by_cases h2:vs.length=0;obtain rfl:vs=[]:=by simpa using h2
 refine ad qw (by simp[fP]) ?_;simp only[fP,am];have kk2:=@hid _ (λL K=>aaf (cap:=none) (L:=L) (K:=K));refine wk ?_;exact ba (aa h.out);refine ad qw (by simp[fP]) ?_;simp only[fP,am];have kk2:=@hid _ (λL K=>acK (cap:=none) (L:=L) (K:=K) h2 hln);refine wk ?_;refine Io (i:=L.length) (l:=vs.map AV.str) (by rw[ahB (ag9 _),aiv];rfl) ?_;have e8:((vs.map AV.str).drop 0).take (vs.length*1)=vs.map AV.str:=by rw[ai5,Nat.mul_one,aib (by simp)]
 simp only[AV.snap,if_true,e8];rw[ahT _ _ (ag9 _)];refine ae ?_ h.out;simp only[AV.refs,hP]
theorem Tg:∀{l m:List Int},l.Pairwise (· < ·)->m.Pairwise (· < ·)->(∀x,x∈l↔x∈m)->l=m
 |[],[],_,_,_=>rfl
 |[],b::m,_,_,h=>absurd ((h b).2 (by simp)) (by simp)
 |a::l,[],_,_,h=>absurd ((h a).1 (by simp)) (by simp)
 | a::l,b::m,h1,h2,h=>by
   rw[ahR]at h1 h2;have hab:a=b:=by
    have ha:=(h a).1 (by simp);have hb:=(h b).2 (by simp);rcases ahc.1 ha with e|e
    .exact e
    .rcases ahc.1 hb with e'|e'
     .exact e'.symm
     .have:=h2.1 a e;have:=h1.1 b e';omega
   subst hab;rw[Tg h1.2 h2.2 λx=>?_];constructor
   .intro hx;have:=(h x).1 (by simp[hx]);rcases ahc.1 this with e|e
    .have:=h1.1 x hx;omega
    .exact e
   .intro hx;have:=(h x).2 (by simp[hx]);rcases ahc.1 this with e|e
    .have:=h2.1 x hx;omega
    .exact e
theorem vC{X:Type}{l:List (Int×X)}(h:(l.map (·.1)).Pairwise (· < ·))(p:Int×X->Bool):((l.filter p).map (·.1)).Pairwise (· < ·):=
 List.Pairwise.sublist (List.Sublist.map _ ai9) h
abbrev bd:=Int×List Atr
variable {l:List bd}
abbrev gU(l:List bd):Prop:=(l.map (·.1)).Pairwise (· < ·)
def cz(id:Int)(l:List bd):List bd:=l.filter λe=>decide (e.1≠id)
def kS(x:bd):List bd->List bd
 |[]=>[x]
 |e::t=>if x.1<e.1 then x::e::t else e::kS x t
def DN(id:Int)(a:List Atr)(l:List bd):List bd:=kS (id,a) (cz id l)
theorem fW{e:bd}:e∈cz id l↔e∈l/\e.1≠id:=by unfold cz;rw[ahI];simp
theorem RO(h:gU l):gU (cz id l):=vC h _
theorem Ry{x e:bd}:∀{l:List bd},e∈kS x l↔e=x\/e∈l
 |[]=>by simp[kS]
 | y::t=>by
   rw[kS];split
   .simp
   .rw[ahc,Ry,ahc];constructor
    .rintro(h|h|h)<;>simp[h]
    .rintro(h|h|h)<;>simp[h]
theorem TJ{x:bd}:∀{l:List bd},gU l->(∀e∈l,e.1≠x.1)->gU (kS x l)
 |[],_,_=>by simp[kS,gU]
 | y::t,h,hn=>by
   have h':=h;unfold gU at h;rw[ahl,ahR]at h;rw[kS];split
   .rename_i hx;unfold gU;rw[ahl,ahR];refine⟨λa ha=>?_,h'⟩;rw[ahl,ahc]at ha;rcases ha with rfl|ha
    .exact hx
    .have:=h.1 a ha;omega
   .rename_i hx;unfold gU;rw[ahl,ahR];refine⟨λa ha=>?_,TJ h.2 λe he=>hn e (by simp[he])⟩;obtain⟨e,he,rfl⟩:=ahd.1 ha;rcases Ry.1 he with rfl|he
    .have:=hn y (by simp);omega
    .exact h.1 _ (ahd.2 ⟨e,he,rfl⟩)
theorem kK{e:bd}:e∈DN id a l↔e=(id,a)\/(e∈l/\e.1≠id):=by unfold DN;rw[Ry,fW]
theorem Zo(h:gU l):gU (DN id a l):=
 TJ (RO h) λe he=>(fW.1 he).2
theorem Zg(h:gU l){a b:bd}(ha:a∈l)(hb:b∈l)(e:a.1=b.1):a=b:=by
 induction l with
 |nil=>cases ha
 | cons x t ih =>
   unfold gU at h;rw[ahl,ahR]at h;rcases ahc.1 ha with rfl|ha<;>rcases ahc.1 hb with rfl|hb
   .rfl
   .have:=h.1 b.1 (ahd.2 ⟨b,by assumption,rfl⟩);omega
   .have:=h.1 a.1 (ahd.2 ⟨a,by assumption,rfl⟩);omega
   .exact ih h.2 ha hb
abbrev aF:=List UInt8×Bool×List UInt8
variable {k:aF}{ks:List aF}
def dI(s:List UInt8):List (List UInt8):=(List.range (s.length-2)).map λi=>(s.drop i).take 3
def H1(f:List UInt8)(syn:Int)(v:List UInt8):List aF:=match dh syn v with
 |none=>[]
 |some n=>(f,false,n)::(dI n).map λg=>(f,true,g)
def fo(tys:List (List UInt8×Int))(l:List Atr):List aF:=tys.flatMap λt=>(dM l t.1).flatMap (H1 t.1 t.2)
def fD(tys:List (List UInt8×Int))(l:List bd)(k:aF):List Int:=(l.filter λe=>(fo tys e.2).contains k).map (·.1)
def lr(l:List bd)(f:List UInt8):List Int:=(l.filter λe => !(dM e.2 f).isEmpty).map (·.1)
theorem TM(h:gU l):(fD tys l k).Pairwise (· < ·):=vC h _
theorem IC(h:gU l):(lr l f).Pairwise (· < ·):=vC h _
theorem qg    :x∈fD tys l k↔∃a,(x,a)∈l/\k∈fo tys a:=by unfold fD;simp only[ahd,ahI,ah1];constructor;rintro⟨⟨y,a⟩,⟨h1,h2⟩,rfl⟩;exact⟨a,h1,h2⟩;rintro⟨a,h1,h2⟩;exact⟨(x,a),⟨h1,h2⟩,rfl⟩
theorem u7   :x∈lr l f↔∃a,(x,a)∈l/\dM a f≠[]:=by unfold lr;simp only[ahd,ahI,ahM,List.isEmpty_eq_false_iff];constructor;rintro⟨⟨y,a⟩,⟨h1,h2⟩,rfl⟩;exact⟨a,h1,h2⟩;rintro⟨a,h1,h2⟩;exact⟨(x,a),⟨h1,h2⟩,rfl⟩
theorem ab4     :x∈fD tys (DN id a l) k↔(x∈fD tys l k/\x≠id)\/(x=id/\k∈fo tys a):=by rw[qg,qg];constructor;rintro⟨b,h1,h2⟩;rcases kK.1 h1 with e|⟨e,e2⟩;cases e;exact .inr ⟨rfl,h2⟩;exact .inl ⟨⟨b,e,h2⟩,e2⟩;rintro(⟨⟨b,h1,h2⟩,h3⟩|⟨rfl,h2⟩);exact⟨b,kK.2 (.inr ⟨h1,h3⟩),h2⟩;exact⟨a,kK.2 (.inl rfl),h2⟩
theorem TN    :x∈fD tys (cz id l) k↔x∈fD tys l k/\x≠id:=by rw[qg,qg];constructor;rintro⟨b,h1,h2⟩;obtain⟨e,e2⟩:=fW.1 h1;exact⟨⟨b,e,h2⟩,e2⟩;rintro⟨⟨b,h1,h2⟩,h3⟩;exact⟨b,fW.2 ⟨h1,h3⟩,h2⟩
theorem abl    :x∈lr (DN id a l) f↔(x∈lr l f/\x≠id)\/(x=id/\dM a f≠[]):=by rw[u7,u7];constructor;rintro⟨b,h1,h2⟩;rcases kK.1 h1 with e|⟨e,e2⟩;cases e;exact .inr ⟨rfl,h2⟩;exact .inl ⟨⟨b,e,h2⟩,e2⟩;rintro(⟨⟨b,h1,h2⟩,h3⟩|⟨rfl,h2⟩);exact⟨b,kK.2 (.inr ⟨h1,h3⟩),h2⟩;exact⟨a,kK.2 (.inl rfl),h2⟩
abbrev Pc:=Int×List UInt8
def pcA(p:Pc):List AV:=[.int .i64 p.1,.str p.2]
def qA(l:List Pc):List AV:=l.flatMap pcA
theorem Rf(l:List Pc):(qA l).length=l.length*2:=by
 induction l with
 |nil=>rfl
 |cons a l ih=>simp only[qA,aif,ahq,pcA,ahj,ahX]at ih⊢;omega
theorem Qw:∀{l:List Pc}{k:Nat},k<l.length->((qA l).drop (k*2)).take 2=pcA (l.getD k (0,[]))
 |a::l,0,_=>rfl
 |a::l,k+1,h=>by have ih:=@Qw l k (by simpa using h);rw[show(k+1)*2=k*2+1+1 by omega];simpa[qA,pcA]using ih
def Yh(n i:Nat)(p:Pc):Bool:=decide (p.2=[]\/p.1<0\/2<p.1\/(p.1=0/\0<i)\/(p.1=2/\i+1<n))
def Rg(n:Nat):Nat->List Pc->Bool
 |_,[]=>true
 |i,p::t => !(Yh n i p)&&Rg n (i+1) t
def NO(l:List Pc):Bool:=Rg l.length 0 l&&decide (0<l.length)
theorem Vw{l:List Pc}(hn:l.length<=1100000)(h:K (.bool (NO l)) L):ag6 158 [.sl (qA l) l.length cap] L K:=by
 unfold NO at h;obtain⟨R,hR⟩:=ag2 (Rg l.length 0 l);rw[hR]at h;replace h:=hid h;have g0:IntKind.i64.wrap ((l.length:Int)-1)=(l.length:Int)-1:=ac (by omega) (by omega);refine ag5 Pe ?_;refine ak (λn T' L'=>∃(i:Nat) (X:List Blk),n=l.length-i/\i<=l.length/\Hid (Rg l.length i (l.drop i)=R)/\T'=[(7,.int .i64 (i:Int)),(6,.int .i64 l.length),(5,.sl (qA l) l.length cap),(0,.sl (qA l) l.length cap)]/\L'=L++X) (CutS (b:=by simp)) ⟨0,[],rfl,ahf _,hid (by simpa using hR),rfl,by simp⟩ ?_;rintro _ _ _ ⟨i,X,rfl,hi,hI,rfl,rfl⟩;by_cases hlt:i<l.length
 .have g1:(i:Int)<(l.length:Int):=(by omega);have g2:=ag4 i (by omega);have e3:=Qw hlt;have e4:i*2+2<=(qA l).length:=(by rw[Rf];omega);obtain⟨⟨x,t⟩,ha⟩:∃a,l.getD i (0,[])=a:=⟨_,rfl⟩;have hdr:l.drop i=(x,t)::l.drop (i+1):=(by rw[ahV hlt,<- ha];simp[hlt]);rw[ha]at e3;simp only[pcA]at e3;have hI2:=hI.out;rw[hdr,Rg]at hI2;have hbad:Yh l.length i (x,t)=true->K (.bool false) L:=λe=>by have h':=h.out;rw[e]at hI2;simp only[aiH,aiE]at hI2;rw[<- hI2]at h';simpa using h'
  have hgo:Yh l.length i (x,t)=false->Rg l.length (i+1) (l.drop (i+1))=R:=λe=>by rw[e]at hI2;simpa using hI2
  simp only[Yh,decide_eq_true_eq,decide_eq_false_iff_not]at hbad hgo;replace hbad:=hid hbad;replace hgo:=hid hgo;clear hdr ha hI2 hR
  repeat' first
   |refine br ?_
   | (first|refine bh (by kernel_rfl) ?_|refine aH (by kernel_rfl) ?_|refine aK ?_|refine cO ?_|refine bB (fun _=>?_)|refine aB ?_|refine bm ?_)
     refine sm ?_
   | (first|refine a8 (by kernel_rfl) ?_|refine bc ?_|refine aJ ?_|refine bj ?_|refine bG (aA ?_))
     refine sl ?_
   |exact bC
   |first|apply bD|apply be|apply bE|apply bf|apply bF|apply bg
   |refine aN ?_
   |refine aI ?_
   |first|refine aL rfl ?_|refine aM rfl ?_|refine aw rfl ?_ ?_|refine aQ rfl (λ_=>?_) (λ_=>?_)|refine aP rfl (λ_=>?_) (λ_=>?_)
   |((first|refine au (λ_=>?_) (λ_=>?_)|refine az (λ_=>?_) (λ_=>?_))<;>try refine sm ?_)
   |refine And.intro trivial ?_
   |refine And.intro (by omega) ?_
   |refine aU rfl (λ_=>?_) (λ_=>?_)
   |refine And.intro ?_ ?_
  rename_i hx;refine ae rfl (hbad.out ?_);rcases hx with(e|e)|e;exact .inl e;exact .inr (.inl e);exact .inr (.inr (.inl e));rename_i hx hy;exact ae rfl (hbad.out (.inr (.inr (.inr (by omega)))));rename_i hx hy;refine ah _ _ _ (by omega) (CutL (b:=by simp)) ⟨i+1,_,rfl,hlt,hid (hgo.out λhb=>?_),rfl,rfl⟩;rcases hb with e|e|e|e;exact hx (.inl (.inl e));exact hx (.inl (.inr e));exact hx (.inr e);exact hy (by omega)
 have hke:i=l.length:=by omega
 subst hke;have g1:¬(l.length:Int)<(l.length:Int):=by omega
 have hz:=hI.out;rw[ahU,Rg]at hz;have h':=h.out;rw[<- hz,aia,show decide (0<l.length)=decide ((0:Int)<(l.length:Int))by simp]at h';replace h':=hid h';clear hz hR;refine wk ?_;exact ae rfl h'.out
abbrev ags(l:List Pc)(cap:Option Nat):AV:=.agg [.int .i64 4,.str [97],.str [],.sl (qA l) l.length cap,.sl [] 0 (some 0)]
theorem acO{l:List Pc}(hn:l.length<=1100000)(hL:L[p]?=some (.cells [.int .i64 0]))(h:K (.int .i64 (if NO l=true then 0 else 4)) (L.set p (.cells [.int .i64 1]))):
  ag6 120 [.ptr p 0,ags l cap,.int .i64 1] L K:=by
 have hp:p<L.length:=(ag8.1 hL).1;have f1:∀X:List Blk,(L++X)[p]?=some (.cells [.int .i64 0]):=λX=>by rw[ahi hp];exact hL
 have f2:∀(X:List Blk) A,(L++X).set p A=L.set p A++X:=λX A=>ahY _ _ hp
 have f3:∀(X:List Blk) A,(L.set p A++X)[p]?=some A:=λX A=>by rw[ahi (by simpa using hp),ahv,if_pos rfl,if_pos hp]
 have f4:∀A:Blk,(L.set p A).length=L.length:=λA=>by simp
 have f5:∀(X:List Blk) A,(L.set p A++X)[L.length]?=X[0]?:=λX A=>by rw[ahB (by simp)];simp
 have hty:eT [97]=true:=by decide
 have fin:∀(X:List Blk) (r:Int),K (.int .i64 r) (L.set p (.cells [.int .i64 1]))->Fin L (.int .i64 r) (L.set p (.cells [.int .i64 1])++X) K:=λX r hk =>
  fq (f4 _) (λhh k hk'=>by rcases ajo hk' with e|e;exact hh k e;subst e;rfl) rfl hk
 replace fin:=hid fin;replace h:=hid h;refine ag5 vv ?_;refine Um ?_;rw[hty];refine sk ?_;cases hok:NO l with
 | true =>
   have h':=h.out;rw[hok,if_pos rfl]at h';replace h':=hid h';have kk1:=@hid _ (λL K=>Vw (cap:=cap) hn (L:=L) (K:=K));refine wk ?_;exact fin.out _ _ h'.out
 | false =>
   have h':=h.out;rw[hok,if_neg (by simp)]at h';replace h':=hid h';have kk1:=@hid _ (λL K=>Vw (cap:=cap) hn (L:=L) (K:=K));refine wk ?_;exact fin.out _ _ h'.out
theorem adb{l:List Pc}(hn:l.length<=1100000)(h:K (.int .i64 (if NO l=true then 0 else 4)) L):
  ag6 76 [ags l cap] L K:=by
 obtain⟨r,hr⟩:∃r:Int,(if NO l=true then 0 else 4)=r:=⟨_,rfl⟩;rw[hr]at h;replace h:=hid h;refine ag5 Qr ?_;refine acO hn (by rw[mR];rfl) ?_;rw[hr];refine sk ?_;refine wk ?_;exact ae rfl h.out
def pcT(ex:Bool)(p:Pc):List UInt8:=if ex=true then p.2 else af p.2
def Qa(tys:List (List UInt8×Int))(l:List bd)(f:List UInt8)(syn:Int)(ps:List Pc):List Int :=
 (lr l f).filter λid=>ps.all λp=>(dI (pcT (decide (syn=2)) p)).all λg=>(fD tys l (f,true,g)).contains id
def aeq(tys:List (List UInt8×Int))(l:List bd)(f:List UInt8)(syn:Int)(v:List UInt8):List Int:=match dh syn v with
 |none=>[]
 |some n=>fD tys l (f,false,n)
open Go Go.MapKept
section
variable {P:Program}{w0:World}{S0:SB}{E:Env}{L:List Blk}{w:World}{T:Tm}{a:Act}{N:Nat}
theorem ao.mem1:∀{es:List (AV×AV×Nat)}{rs:List MapEntry}{f:MapEntry},ao E es rs->f∈rs->∃e∈es,VR E e.1 f.key/\VR E e.2.1 f.val/\e.2.2=f.born
 |[],rs,f,h,hf=>by simp only[ao]at h;subst h;cases hf
 | (k,x,b)::es,rs,f,h,hf=>by
   obtain⟨g,t,rfl,g1,g2,g3,g4⟩:=h;rcases ahc.1 hf with rfl|hf
   .exact⟨_,.head _,g1,g2,g3.symm⟩
   .obtain⟨e,he,h1⟩:=ao.mem1 g4 hf;exact⟨e,.tail _ he,h1⟩
theorem ao.mem2:∀{es:List (AV×AV×Nat)}{rs:List MapEntry}{e:AV×AV×Nat},ao E es rs->e∈es->∃f∈rs,e.2.2=f.born
 |[],rs,e,h,he=>by cases he
 | (k,x,b)::es,rs,e,h,he=>by
   obtain⟨g,t,rfl,g1,g2,g3,g4⟩:=h;rcases ahc.1 he with rfl|he
   .exact⟨g,.head _,g3.symm⟩
   .obtain⟨f,hf,h1⟩:=ao.mem2 g4 he;exact⟨f,.tail _ hf,h1⟩
theorem SI{t:TypeId}{v:Value}{i j ck since last:Nat}{seen:List Nat}{es:List (AV×AV×Nat)}(hR:Rel w0 S0 E L w)(hi:L[i]?=some (.miter (some j) since seen last))(hj:L[j]?=some (.map es ck))(hv:VR E (.ptr i 0) v)(hold:∀e∈es,e.2.2<since)(hsc:since<=last):
  ∃r,(match r with|none=>∀e∈es,seen.contains e.2.2=true|some e=>e∈es/\seen.contains e.2.2=false)/\cF P w0 S0 E (Tx L i j since seen ck r) (Lx r) w (Instr.next v false t):=by
 simp only[VR]at hv;obtain⟨c,hc,rfl⟩:=hv;obtain⟨c',q,h1,h2,h3,d,h4,rfl⟩:=hR.blk i _ hi;rw[hc]at h1;cases h1;obtain⟨d',rs,g1,g2,g3⟩:=hR.blk j _ hj;rw[h4]at g1;cases g1;have hlt:c.blk<w.heap.size:=(ah8.1 h2).1;have hold':∀x∈rs.toList,x.born<since:=λx hx=>by obtain⟨e,he,_,_,h⟩:=g3.mem1 hx;rw[<- h];exact hold e he
 rw[h3];rcases run_next_at (P:=P) w t c.blk d.blk since last ⟨seen⟩ rs ck h2 g2 hold' hsc with⟨h0,hrun⟩|⟨f,hf,w1,hw,hrun⟩;refine⟨none,λe he=>?_,.same hR hrun (by simp[Lx,VR,VRL])⟩;obtain⟨f,hf,hb⟩:=g3.mem2 he;rw[hb];have hz:leftOf rs ⟨seen⟩=#[]:=Array.eq_empty_of_size_eq_zero h0;unfold leftOf at hz;rw[Array.filter_eq_empty_iff]at hz;have:=hz f (by simpa using hf);simpa using this;have hf':f∈rs.toList/\seen.contains f.born=false:=by simp only[leftOf,Array.toList_filter,ahI]at hf;exact⟨hf.1,by simpa using hf.2⟩
 obtain⟨e,he,k1,k2,k3⟩:=g3.mem1 hf'.1;have hR1:Rel w0 S0 E L w1:=by rcases hw with rfl|rfl;exact hR;exact hR.grown ⟨λ_ _=>rfl,ag9 _,rfl,rfl,rfl⟩
 have hlt1:c.blk<w1.heap.size:=by rcases hw with rfl|rfl<;>exact hlt
 have turn:=hR1.turn (w':={w1 with heap:=w1.heap.setIfInBounds c.blk (.mapIter (some d.blk) since ((⟨seen⟩:Array Nat).push f.born) ck)}) (k':=.miter (some j) since (seen++[f.born]) ck) hi rfl hc (by simp) (λb hb=>by simp[ajw,Ne.symm hb]) rfl rfl rfl
  ⟨c,some d.blk,hc,by simp[hlt1],h3,d,h4,rfl⟩ (λ_ _ e=>by cases e)
 refine⟨some e,⟨he,by rw[k3];exact hf'.2⟩,E,.tuple #[.bool true,f.key,f.val],_,hrun,.refl E,?_,?_⟩;simp only[Lx,VR,VRL];exact⟨[.bool true,f.key,f.val],rfl,.bool true,[f.key,f.val],rfl,rfl,f.key,[f.val],rfl,k1,f.val,[],rfl,k2,rfl⟩;simp only[Tx,k3];exact turn
def LOp.isNext:LOp->Bool
 |.mnext _=>true
 |_=>false
theorem Xd{own:Nat}{s d:TypeId}{x:Opd}{lo:LOp}(h:vM P own s d x=some lo):lo.isNext=false:=by
 unfold vM at h
 repeat' split at h
 all_goals (first|(cases h;rfl)|cases h)
theorem Zy{op:BinOp}{t:TypeId}{x y:Operand}{lo:LOp}(h:LM P op t x y=some lo):lo.isNext=false:=by
 unfold LM at h
 repeat' split at h
 all_goals (first|(cases h;rfl)|cases h)
theorem SF{own:Nat}{b:Builtin}{ts:List TypeId}{xs:List Opd}{lo:LOp}(h:cV P own b ts xs=some lo):lo.isNext=false:=by
 unfold cV at h
 repeat' split at h
 all_goals (first|(cases h;rfl)|cases h|(simp only[ahA]at h;obtain⟨_,_,rfl⟩:=h;rfl))
theorem Xc{own:Nat}{op:Op}{y:Opd}(h:gO P own op=some (.mnext y)):∃x,op=.next x false/\bx x=some y:=by
 cases op
 case next x isS =>
  simp only[gO]at h;split at h
  .simp only[ahA]at h;obtain⟨_,_,h⟩:=h;cases h
  .rename_i hS;simp only[ahA,LOp.mnext.injEq]at h;obtain⟨_,h1,rfl⟩:=h;exact⟨x,by rw[show isS=false by simpa using hS],h1⟩
 case makeMap t r =>
  cases r with
  |some x=>simp[gO]at h
  | none =>
    simp only[gO]at h;split at h<;>cases h
 all_goals (exfalso;simp only[gO]at h;try (cases h;done))
 case binOp=>have:=Zy h;cases this
 case convert x=>simp only[aiY]at h;obtain⟨_,_,h⟩:=h;have:=Xd h;cases this
 case call c =>
  split at h<;>try cases h
  split at h<;>try cases h
  .simp only[ahA]at h;obtain⟨_,_,h⟩:=h;cases h
  .have:=SF h;cases this
 all_goals
  repeat' split at h
  all_goals (first|cases h|(simp only[ahA]at h;obtain⟨_,_,h⟩:=h;cases h))
theorem QJ{own:Nat->Nat->Nat}{Q:Exit->Tm->List Blk->Prop}{d t i j since last ck:Nat}{rest:List SOp}{mask:List Bool}{seen:List Nat}{es:List (AV×AV×Nat)}(hok:(okS rest&&(gds rest).isEmpty)=true)(ht:an T t=some (.ptr i 0))(hi:L[i]?=some (.miter (some j) since seen last))(hj:L[j]?=some (.map es ck))(hold:∀e∈es,e.2.2<since)(hsc:since<=last)(h0:(∀e∈es,seen.contains e.2.2=true)->SL P rest (Sr mask (Q .normal)) ((d,.tup [.bool false])::T) L)(h1:∀e∈es,seen.contains e.2.2=false->SL P rest (Sr mask (Q .normal)) ((d,.tup [.bool true,e.1,e.2.1])::T) (L.set i (.miter (some j) since (seen++[e.2.2]) ck))):
  AW P N own (.sreg (.op ⟨some d,.mnext (.tmp t),none⟩::rest) mask) Q T L:=λc hc ro hro w0 S0 E a w hst=>by
 obtain⟨id,os,rfl,hlo⟩:=LQ hc;rw[ahe]at hok;refine wpIn_region ?_;generalize List.range os.size=is at hlo⊢;cases is with
 |nil=>simp[bY,SOp.flatL,SOp.flat]at hlo
 | cons i0 is =>
   simp only[SOp.flatL,SOp.flat,ahL,ahJ,bY]at hlo;split at hlo<;>try cases hlo
   rename_i lo los' e1 e2;obtain⟨o,ho,hop,hdst,hd,hg⟩:=fS e1;simp only at hop hdst hg;rcases hg with⟨g1,_⟩|⟨_,_,_,_,_,_,g4⟩
   .simp only[wpOpsIn,ho];rw[if_pos (by simp[Region.wanted,g1])];have hop':gO P (own id i0) o.op=some (.mnext (.tmp t)):=by
     rcases hq:gO P (own id i0) o.op with _|x
     .rw[hq]at hop;cases hop
     .rw[hq]at hop;simp only[aie]at hop;rw[hop]
    obtain⟨x,hx,hlx⟩:=Xc hop';obtain⟨hR,hT,hN,hdf⟩:=hst;have hv:=ag hlx (show evX T (.tmp t)=some (.ptr i 0)from ht) hT;obtain⟨r,hr,E',v,w',hrun,hle,hvr,hR'⟩:=SI (P:=P) (t:=o.type) hR hi hj hv hold hsc;have hnd:∀c,o.op≠.defer c:=λc e=>by rw[hx]at e;cases e
    refine⟨λ_ _=>trivial,?_⟩;rw[Oper.semAt_plain _ _ _ hnd];have hex:(execOp a.eval o).run P w=.ok (.value v) w':=by obtain⟨od,oop,oty,opos,oafter,oguard⟩:=o;simp only at hx hrun;subst hx;show(do pure (Next.value (<- Instr.next (a.eval x) false oty)):Sem Next).run P w=_;simp[hrun]
    rw[hex,Oper.uponIn_value];have hst':St w0 S0 N E' (cr (some d) (Lx r) T) (Tx L i j since seen ck r) (a.put o.dst v) w':=⟨hR',by rw[hdst];exact(hT.mono hle).putT (λk hk=>by rw[hN];exact hd k (by rw[hdst];exact hk)) hvr,by rw[Q7];exact hN,by rw[LH];exact hdf⟩;have hfr:Fr (gds rest) (cr (some d) (Lx r) T):=λk hk=>by rw[List.isEmpty_iff.1 hok.2]at hk;cases hk
    have hSL:SL P rest (Sr mask (Q .normal)) (cr (some d) (Lx r) T) (Tx L i j since seen ck r):=by
     cases r with
     |none=>exact h0 hr
     |some e=>exact h1 e hr.1 hr.2
    refine D3 rest hok.1 e2 hst' hfr hSL λE'' T' L' a' w'' q2 q3 q4=>⟨w0,S0,E'',sel mask T',L',.refl _ _,hle.trans q2,q3.2,q4.weak (λt v hv=>Ix q3.1 hv) rfl λ_ _ e=>.inr e⟩
   .cases g4
end
section
variable {κ υ:Type}{ka:κ->AV}{va:υ->AV}
abbrev aY(κ υ:Type):=κ×υ×Nat
def DP(ka:κ->AV)(va:υ->AV)(e:aY κ υ):AV×AV×Nat:=(ka e.1,va e.2.1,e.2.2)
def aT(ka:κ->AV)(va:υ->AV)(xs:List (aY κ υ)):List (AV×AV×Nat):=xs.map (DP ka va)
structure cP(xs:List (aY κ υ))(ck:Nat):Prop where
 keys:(xs.map (·.1)).Nodup
 born:(xs.map (·.2.2)).Nodup
 lt:∀p∈xs,p.2.2<ck
theorem cP.nil:cP ([]:List (aY κ υ)) 0:=⟨ajx,ajx,λ_ h=>by cases h⟩
theorem cP.add{xs:List (aY κ υ)}{ck:Nat}(h:cP xs ck){k:κ}{w:υ}(ht:k∉xs.map (·.1)):cP (xs++[(k,w,ck)]) (ck+1):=by refine⟨?_,?_,λp hp=>?_⟩;rw[ahE,ajG];exact⟨h.keys,by simp,λa ha b hb e=>ht (by simp at hb;rw[<- hb,<- e];exact ha)⟩;rw[ahE,ajG];refine⟨h.born,by simp,λa ha b hb e=>?_⟩;obtain⟨p,hp,rfl⟩:=ahd.1 ha;have:=h.lt p hp;simp at hb;omega;rcases ahb.1 hp with hp|hp;have:=h.lt p hp;omega;rw[ahs.1 hp];exact Nat.lt_succ_self _
theorem cP.filter{xs:List (aY κ υ)}{ck:Nat}(h:cP xs ck)(q:aY κ υ->Bool):cP (xs.filter q) ck :=
 ⟨h.keys.sublist (List.filter_sublist.map _),h.born.sublist (List.filter_sublist.map _),λp hp=>h.lt p (ahI.1 hp).1⟩
theorem abL{xs:List (aY κ υ)}{p:aY κ υ}{ck:Nat}{seen:List Nat}(hb:(xs.map (·.2.2)).Nodup)(hp:p∈xs):mat (aT ka va xs) ck (seen++[p.2.2]) ck=some (ka p.1,va p.2.1,p.2.2):=by
 have key:∀xs:List (aY κ υ),(xs.map (·.2.2)).Nodup->p∈xs->(aT ka va xs).find? (λe=>Nat.beq e.2.2 p.2.2)=some (DP ka va p):=by
  intro xs;induction xs with
  |nil=>intro _ h;cases h
  | cons x xs ih =>
    intro hn h;rw[ahl,ah6]at hn;simp only[aT,ahl,aim];rcases ahc.1 h with h|h
    .subst h;simp[DP]
    .have hne:x.2.2≠p.2.2:=λe=>hn.1 (ahd.2 ⟨p,h,e.symm⟩)
     have hbq:Nat.beq x.2.2 p.2.2=false:=by
      cases hh:Nat.beq x.2.2 p.2.2 with
      |false=>rfl
      |true=>exact absurd (aj8 hh) hne
     rw[show Nat.beq (DP ka va x).2.2 p.2.2=false from hbq];exact ih hn.2 h
 simp only[mat,List.getLast?_append,List.getLast?_singleton,Option.some_or,if_true];exact key xs hb hp
end
variable {em:List (aY Int (List Atr))}
section
variable {κ υ:Type}[DecidableEq κ]{ka:κ->AV}{va:υ->AV}
def Su(ka:κ->AV):Prop:=∀a b,vh (ka a) (ka b)=some (decide (a=b))
def cy(xs:List (aY κ υ))(k:κ):Option υ:=(xs.find? λe=>decide (e.1=k)).map (·.2.1)
def rx(xs:List (aY κ υ))(k:κ)(w:υ):List (aY κ υ):=xs.map λe=>if e.1=k then(k,w,e.2.2)else e
def gQ(xs:List (aY κ υ))(k:κ):List (aY κ υ):=xs.filter λe=>decide (e.1≠k)
def pV(xs:List (aY κ υ))(k:κ)(w:υ)(ck:Nat):List (aY κ υ):=if k∈xs.map (·.1)then rx xs k w else xs++[(k,w,ck)]
theorem SY{xs:List (aY κ υ)}{k:κ}{w:υ}:(rx xs k w).map (·.1)=xs.map (·.1):=by
 unfold rx;rw[ahK];refine aiT λe _=>?_
 simp only[aj2];split;rename_i h;exact h.symm;rfl
theorem SZ{xs:List (aY κ υ)}{k:κ}{w:υ}:(rx xs k w).map (·.2.2)=xs.map (·.2.2):=by
 unfold rx;rw[ahK];refine aiT λe _=>?_
 simp only[aj2];split<;>rfl
theorem cP.upd{xs:List (aY κ υ)}{ck:Nat}(h:cP xs ck){k:κ}{w:υ}:cP (rx xs k w) ck:=by
 refine⟨by rw[SY];exact h.keys,by rw[SZ];exact h.born,λp hp=>?_⟩;have:p.2.2∈xs.map (·.2.2):=by rw[<- SZ (k:=k) (w:=w)];exact ahd.2 ⟨p,hp,rfl⟩
 obtain⟨q,hq,e⟩:=ahd.1 this;rw[<- e];exact h.lt q hq
theorem vm{xs:List (aY κ υ)}{k:κ}:cy xs k=none↔k∉xs.map (·.1):=by unfold cy;rw[Option.map_eq_none_iff,ajZ];constructor;intro h hm;obtain⟨e,he,q⟩:=ahd.1 hm;exact h e he (decide_eq_true q);intro h e he q;exact h (ahd.2 ⟨e,he,of_decide_eq_true q⟩)
theorem kV{xs:List (aY κ υ)}{k:κ}{w:υ}(h:cy xs k=some w):∃b,(k,w,b)∈xs:=by unfold cy at h;obtain⟨⟨k',w',b⟩,h1,h2⟩:=ahA.1 h;have e:=ajK h1;simp only[decide_eq_true_eq]at e h2;subst e;subst h2;exact⟨b,aju h1⟩
theorem HP{xs:List (aY κ υ)}(hn:(xs.map (·.1)).Nodup){e:aY κ υ}(h:e∈xs):cy xs e.1=some e.2.1:=by
 induction xs with
 |nil=>cases h
 | cons x t ih =>
   rw[ahl,ah6]at hn;unfold cy;rw[aim];rcases ahc.1 h with rfl|h
   .simp
   .have hne:x.1≠e.1:=λq=>hn.1 (ahd.2 ⟨e,h,q.symm⟩)
    rw[decide_eq_false hne];exact ih hn.2 h
theorem acm{xs:List (aY κ υ)}{k j:κ}{w:υ}(hk:k∈xs.map (·.1)):cy (rx xs k w) j=if j=k then some w else cy xs j:=by
 induction xs with
 |nil=>cases hk
 | cons x t ih =>
   have hu:rx (x::t) k w=(if x.1=k then(k,w,x.2.2)else x)::rx t k w:=rfl;by_cases hx:x.1=k
   .rw[hu,if_pos hx];unfold cy;rw[aim,aim];by_cases hj:j=k
    .subst hj;simp
    .have h1:decide (k=j)=false:=decide_eq_false λe=>hj e.symm
     have h2:decide (x.1=j)=false:=decide_eq_false λe=>hj (by rw[<- e,hx])
     simp only[h1,h2,if_neg hj];by_cases hk2:k∈t.map (·.1)
     .have:=ih hk2;rw[if_neg hj]at this;exact this
     .have hs:rx t k w=t:=by unfold rx;refine(aiT λe he=>?_).trans (List.map_id t);rw[if_neg λq=>hk2 (ahd.2 ⟨e,he,q⟩)];rfl
      rw[hs]
   .rw[hu,if_neg hx];have hk2:k∈t.map (·.1):=by rw[ahl,ahc]at hk;exact hk.resolve_left λe=>hx e.symm
    have:=ih hk2;unfold cy at this⊢;rw[aim,aim];by_cases hj:x.1=j
    .subst hj;simp only[decide_true,if_neg hx,ahu]
    .rw[decide_eq_false hj];exact this
theorem HX{xs:List (aY κ υ)}{k j:κ}{w:υ}{ck:Nat}(hk:k∉xs.map (·.1)):cy (xs++[(k,w,ck)]) j=if j=k then some w else cy xs j:=by
 unfold cy;rw[List.find?_append];by_cases hj:j=k;subst hj;have:xs.find? (λe=>decide (e.1=j))=none:=ajZ.2 λe he=>by simp only[decide_eq_true_eq];exact λq=>hk (ahd.2 ⟨e,he,q⟩)
 rw[this];simp;have h1:decide (k=j)=false:=decide_eq_false λe=>hj e.symm
 rw[if_neg hj];cases hf:xs.find? (λe=>decide (e.1=j))with
 |none=>simp[aim,h1]
 |some v=>simp
theorem acn{xs:List (aY κ υ)}{k j:κ}{w:υ}{ck:Nat}:cy (pV xs k w ck) j=if j=k then some w else cy xs j:=by unfold pV;split;rename_i h;exact acm h;rename_i h;exact HX h
theorem HW{xs:List (aY κ υ)}{k j:κ}:cy (gQ xs k) j=if j=k then none else cy xs j:=by
 by_cases hj:j=k;subst hj;rw[if_pos rfl,vm];intro h;obtain⟨e,he,q⟩:=ahd.1 h;have:=(ahI.1 he).2;simp only[ne_eq,decide_eq_true_eq]at this;exact this q;rw[if_neg hj];induction xs with
 |nil=>rfl
 | cons x t ih =>
   unfold gQ cy at ih⊢;rw[ajh,aim];by_cases hx:x.1=k
   .have h1:decide (x.1=j)=false:=decide_eq_false λe=>hj (by rw[<- e,hx])
    rw[if_neg (by simp[hx]),h1];exact ih
   .rw[if_pos (by simp[hx]),aim];by_cases h2:x.1=j
    .rw[decide_eq_true h2]
    .rw[decide_eq_false h2];exact ih
theorem qi(hka:Su ka):∀{xs:List (aY κ υ)}{k:κ}(i:Nat),(xs.map (·.1)).Nodup->k∈xs.map (·.1)->∃j w,cy xs k=some w/\dW (ka k) (aT ka va xs) i=some (some (i+j,va w))/\(∀u,UA (ka k) (va u) (aT ka va xs) j=aT ka va (rx xs k u))/\(aT ka va xs).eraseIdx j=aT ka va (gQ xs k)
 |[],k,i,_,h=>by cases h
 | x::xs,k,i,hn,h=>by
   rw[ahl,ah6]at hn;by_cases e:k=x.1
   .subst e;have hf:gQ xs x.1=xs:=ajq.2 λp hp=>by
     have:p.1≠x.1:=λe=>hn.1 (ahd.2 ⟨p,hp,e⟩)
     simpa using this
    have hu:∀u,rx xs x.1 u=xs:=λu=>by unfold rx;refine(aiT λp hp=>?_).trans (List.map_id xs);rw[if_neg λq=>hn.1 (ahd.2 ⟨p,hp,q⟩)];rfl
    refine⟨0,x.2.1,?_,?_,λu=>?_,?_⟩
    .simp[cy]
    .simp only[aT,ahl,DP,dW,hka x.1 x.1,decide_true];rfl
    .have:rx (x::xs) x.1 u=(x.1,u,x.2.2)::rx xs x.1 u:=(by simp[rx]);rw[this,hu];simp only[aT,ahl,DP,UA]
    .have:gQ (x::xs) x.1=gQ xs x.1:=(by simp[gQ]);rw[this,hf];simp only[aT,ahl,List.eraseIdx_zero,List.tail_cons]
   .have ht:k∈xs.map (·.1):=by rw[ahl,ahc]at h;exact h.resolve_left e
    have e':x.1≠k:=λq=>e q.symm
    obtain⟨j,w,h0,h1,h2,h3⟩:=qi hka (i+1) hn.2 ht;refine⟨j+1,w,?_,?_,λu=>?_,?_⟩
    .unfold cy at h0⊢;rw[aim,decide_eq_false e'];exact h0
    .simp only[aT,ahl,DP,dW,hka k x.1,decide_eq_false e];rw[show i+(j+1)=i+1+j by omega];exact h1
    .have:rx (x::xs) k u=x::rx xs k u:=(by simp[rx,e']);rw[this];simp only[aT,ahl,UA];exact congrArg _ (h2 u)
    .have:gQ (x::xs) k=x::gQ xs k:=(by simp[gQ,e']);rw[this];simp only[aT,ahl,List.eraseIdx_cons_succ];exact congrArg _ h3
theorem OL(hka:Su ka):∀{xs:List (aY κ υ)}{k:κ}(i:Nat),k∉xs.map (·.1)->dW (ka k) (aT ka va xs) i=some none
 |[],k,i,h=>rfl
 |x::xs,k,i,h=>by rw[ahl,ahc,not_or]at h;simp only[aT,ahl,DP,dW,hka k x.1,decide_eq_false h.1];exact OL hka (i+1) h.2
end
theorem rn:Su (AV.int .i64):=λa b=>by simp[vh]
theorem pH:Su AV.str:=λa b=>by simp[vh]
def oN(k:List UInt8×Bool×List UInt8):AV:=.agg [.str k.1,.bool k.2.1,.str k.2.2]
theorem vi:Su oN:=λa b=>by obtain⟨a1,a2,a3⟩:=a;obtain⟨b1,b2,b3⟩:=b;simp only[oN,vh,vg,PT];by_cases h1:a1=b1<;>by_cases h2:a2=b2<;>by_cases h3:a3=b3<;>simp[h1,h2,h3]
abbrev lq(xs:List (aY Int Bool))(ck:Nat):Blk:=.map (aT (AV.int .i64) AV.bool xs) ck
def qy(L:List Blk)(b:Nat)(P:Int->Prop):Prop:=∃(xs:List (aY Int Bool)) (ck:Nat),L[b]?=some (lq xs ck)/\cP xs ck/\(∀e∈xs,e.2.1=true)/\∀x,x∈xs.map (·.1)↔P x
theorem qy.keep(h:qy L b P)(e:L'[b]?=L[b]?):qy L' b P:=by obtain⟨xs,ck,h1,h2,h3,h4⟩:=h;exact⟨xs,ck,by rw[e];exact h1,h2,h3,h4⟩
theorem qy.iff{Q:Int->Prop}(h:qy L b P)(e:∀x,P x↔Q x):qy L b Q:=by obtain⟨xs,ck,h1,h2,h3,h4⟩:=h;exact⟨xs,ck,h1,h2,h3,λx=>(h4 x).trans (e x)⟩
def ckS(xs:List (aY Int Bool))(id:Int)(ck:Nat):Nat:=if id∈xs.map (·.1)then ck else ck+1
theorem adM[DecidableEq κ]{xs:List (aY κ υ)}(h:cP xs ck){k:κ}{w:υ}:cP (pV xs k w ck) (if k∈xs.map (·.1)then ck else ck+1):=by unfold pV;split;exact h.upd;rename_i e;exact h.add e
theorem Zb[DecidableEq κ]{xs:List (aY κ υ)}{k:κ}{w:υ}{x:κ}:x∈(pV xs k w ck).map (·.1)↔x∈xs.map (·.1)\/x=k:=by unfold pV;split;rename_i h;rw[SY];exact⟨.inl,λe=>e.elim id λq=>q▸h⟩;rw[ahE,ahb];simp
theorem TY[DecidableEq κ]{xs:List (aY κ υ)}{k x:κ}:x∈(gQ xs k).map (·.1)↔x∈xs.map (·.1)/\x≠k:=by unfold gQ;simp only[ahd,ahI,ne_eq,decide_eq_true_eq];constructor;rintro⟨e,⟨h1,h2⟩,rfl⟩;exact⟨⟨e,h1,rfl⟩,h2⟩;rintro⟨⟨e,h1,rfl⟩,h2⟩;exact⟨e,⟨h1,h2⟩,rfl⟩
theorem qy.add{xs:List (aY Int Bool)}(hb:L[b]?=some (lq xs ck))(h:qy L b P)(id:Int)(hm:cP xs ck)(ht:∀e∈xs,e.2.1=true)(hp:∀x,x∈xs.map (·.1)↔P x):qy (L.set b (lq (pV xs id true ck) (ckS xs id ck))) b λx=>P x\/x=id:=by refine⟨pV xs id true ck,ckS xs id ck,?_,adM hm,λe he=>?_,λx=>?_⟩;rw[ah2 (ag8.1 hb).1];unfold pV at he;split at he;unfold rx at he;obtain⟨q,hq,rfl⟩:=ahd.1 he;split;rfl;exact ht q hq;rcases ahb.1 he with he|he;exact ht e he;rw[ahs.1 he];rw[Zb,hp]
theorem qy.del{xs:List (aY Int Bool)}(hb:L[b]?=some (lq xs ck))(id:Int)(hm:cP xs ck)(ht:∀e∈xs,e.2.1=true)(hp:∀x,x∈xs.map (·.1)↔P x):qy (L.set b (lq (gQ xs id) ck)) b λx=>P x/\x≠id:=by refine⟨gQ xs id,ck,?_,hm.filter _,λe he=>ht e (ahI.1 he).1,λx=>?_⟩;rw[ah2 (ag8.1 hb).1];rw[TY,hp]
abbrev tyV(ty:Typ):AV:=.agg (tyC ty)
abbrev atV(a:List Atr):AV:=.sl (bo a) a.length none
abbrev WK(m:List (aY (List UInt8) Typ))(c:Nat):Blk:=.map (aT AV.str tyV m) c
abbrev acw(m:List (aY Int (List Atr)))(c:Nat):Blk:=.map (aT (AV.int .i64) atV m) c
abbrev abn(m:List (aY (List UInt8) Nat))(c:Nat):Blk:=.map (aT AV.str AV.lmap m) c
abbrev UJ(m:List (aY aF Nat))(c:Nat):Blk:=.map (aT oN AV.lmap m) c
structure IxH(L:List Blk)(it im ie ip ii:Nat)(tm:List (aY (List UInt8) Typ))(tc:Nat)(em:List (aY Int (List Atr)))(ec:Nat)(pm:List (aY (List UInt8) Nat))(pc:Nat)(dm:List (aY aF Nat))(dc:Nat)(Q:List UInt8->Int->Prop)(R:aF->Int->Prop):Prop where
 st:L[it]?=some (.cells [.lmap im,.lmap ie,.lmap ip,.lmap ii])
 ty:L[im]?=some (WK tm tc)
 en:L[ie]?=some (acw em ec)
 pr:L[ip]?=some (abn pm pc)
 ids:L[ii]?=some (UJ dm dc)
 tok:cP tm tc
 eok:cP em ec
 pok:cP pm pc
 dok:cP dm dc
 pk:∀f,f∈pm.map (·.1)↔f∈tm.map (·.1)
 ps:∀f b,cy pm f=some b->qy L b (Q f)
 ds:∀k b,cy dm k=some b->qy L b (R k)
 dn:∀k,cy dm k=none->∀x,¬R k x
 nd:(it::im::ie::ip::ii::(pm.map (·.2.1)++dm.map (·.2.1))).Nodup
section
variable {L L':List Blk}{it im ie ip ii:Nat}{tm:List (aY (List UInt8) Typ)}{tc:Nat}{em:List (aY Int (List Atr))}{ec:Nat}{pm:List (aY (List UInt8) Nat)}{pc:Nat}{dm:List (aY aF Nat)}{dc:Nat}{Q:List UInt8->Int->Prop}{R:aF->Int->Prop}
theorem vQ{f:List UInt8}{b:Nat}(h:cy pm f=some b):b∈pm.map (·.2.1):=by obtain⟨c,h⟩:=kV h;exact ahd.2 ⟨_,h,rfl⟩
theorem rz{k:aF}{b:Nat}(h:cy dm k=some b):b∈dm.map (·.2.1):=by obtain⟨c,h⟩:=kV h;exact ahd.2 ⟨_,h,rfl⟩
theorem IxH.keep(h:IxH L it im ie ip ii tm tc em ec pm pc dm dc Q R)(e:∀i∈it::im::ie::ip::ii::(pm.map (·.2.1)++dm.map (·.2.1)),L'[i]?=L[i]?):IxH L' it im ie ip ii tm tc em ec pm pc dm dc Q R :=
 ⟨by rw[e it (by simp)];exact h.st,by rw[e im (by simp)];exact h.ty,by rw[e ie (by simp)];exact h.en,by rw[e ip (by simp)];exact h.pr,by rw[e ii (by simp)];exact h.ids,h.tok,h.eok,h.pok,h.dok,h.pk,
  λf b q=>(h.ps f b q).keep (e b (by simp only[ahc,ahb];exact .inr (.inr (.inr (.inr (.inr (.inl (vQ q)))))))),
  λk b q=>(h.ds k b q).keep (e b (by simp only[ahc,ahb];exact .inr (.inr (.inr (.inr (.inr (.inr (rz q)))))))),h.dn,h.nd⟩
theorem IxH.lt(h:IxH L it im ie ip ii tm tc em ec pm pc dm dc Q R):∀i∈it::im::ie::ip::ii::(pm.map (·.2.1)++dm.map (·.2.1)),i<L.length:=by
 intro i hi;simp only[ahc,ahb]at hi;have g:∀{i:Nat}{b:Blk},L[i]?=some b->i<L.length:=λq=>(ag8.1 q).1
 rcases hi with rfl|rfl|rfl|rfl|rfl|hi|hi;exact g h.st;exact g h.ty;exact g h.en;exact g h.pr;exact g h.ids;obtain⟨e,he,rfl⟩:=ahd.1 hi;obtain⟨xs,ck,q,_⟩:=h.ps e.1 e.2.1 (HP h.pok.keys he);exact g q;obtain⟨e,he,rfl⟩:=ahd.1 hi;obtain⟨xs,ck,q,_⟩:=h.ds e.1 e.2.1 (HP h.dok.keys he);exact g q
theorem IxH.more(h:IxH L it im ie ip ii tm tc em ec pm pc dm dc Q R)(X:List Blk):IxH (L++X) it im ie ip ii tm tc em ec pm pc dm dc Q R :=
 h.keep λi hi=>ahi (h.lt i hi)
theorem IxH.iff{Q':List UInt8->Int->Prop}{R':aF->Int->Prop}(h:IxH L it im ie ip ii tm tc em ec pm pc dm dc Q R)(hq:∀f x,f∈tm.map (·.1)->(Q f x↔Q' f x))(hr:∀k x,R k x↔R' k x):IxH L it im ie ip ii tm tc em ec pm pc dm dc Q' R' :=
 ⟨h.st,h.ty,h.en,h.pr,h.ids,h.tok,h.eok,h.pok,h.dok,h.pk,λf b q=>(h.ps f b q).iff λx=>hq f x ((h.pk f).1 (by obtain⟨c,m⟩:=kV q;exact ahd.2 ⟨_,m,rfl⟩)),λk b q=>(h.ds k b q).iff λx=>hr k x,λk q x=>λr=>h.dn k q x ((hr k x).2 r),h.nd⟩
theorem abx{κ:Type}[DecidableEq κ]{xs:List (aY κ Nat)}(hn:(xs.map (·.2.1)).Nodup){f g:κ}{b:Nat}(h1:cy xs f=some b)(h2:cy xs g=some b):f=g:=by
 obtain⟨c,m1⟩:=kV h1;obtain⟨d,m2⟩:=kV h2;have:∀{l:List (aY κ Nat)},(l.map (·.2.1)).Nodup->∀{x y:aY κ Nat},x∈l->y∈l->x.2.1=y.2.1->x=y:=by
  intro l;induction l with
  |nil=>intro _ x y hx;cases hx
  | cons a l ih =>
    intro hn x y hx hy e;rw[ahl,ah6]at hn;rcases ahc.1 hx with h1|h1<;>rcases ahc.1 hy with h2|h2
    .rw[h1,h2]
    .exact absurd (ahd.2 ⟨y,h2,by rw[<- e,h1]⟩) hn.1
    .exact absurd (ahd.2 ⟨x,h1,by rw[e,h2]⟩) hn.1
    .exact ih hn.2 h1 h2 e
 exact congrArg (·.1) (this hn m1 m2 rfl)
theorem IxH.ne(h:IxH L it im ie ip ii tm tc em ec pm pc dm dc Q R):(pm.map (·.2.1)).Nodup/\(dm.map (·.2.1)).Nodup/\(∀b∈pm.map (·.2.1),b∉dm.map (·.2.1)/\b≠it/\b≠im/\b≠ie/\b≠ip/\b≠ii)/\(∀b∈dm.map (·.2.1),b≠it/\b≠im/\b≠ie/\b≠ip/\b≠ii)/\it≠im/\it≠ie/\it≠ip/\it≠ii/\im≠ie/\im≠ip/\im≠ii/\ie≠ip/\ie≠ii/\ip≠ii:=by have hnd:=h.nd;obtain⟨A,hA⟩:=ag2 (pm.map (·.2.1));obtain⟨B,hB⟩:=ag2 (dm.map (·.2.1));rw[hA,hB]at hnd⊢;simp only[ah6,ahc,ahb,not_or,ajG]at hnd;obtain⟨⟨a1,a2,a3,a4,a5,a6⟩,⟨b1,b2,b3,b4,b5⟩,⟨c1,c2,c3,c4⟩,⟨d1,d2,d3⟩,⟨e1,e2⟩,f1,f2,f3⟩:=hnd;refine⟨f1,f2,λb hb=>⟨λq=>f3 b hb b q rfl,?_,?_,?_,?_,?_⟩,λb hb=>⟨?_,?_,?_,?_,?_⟩,a1,a2,a3,a4,b1,b2,b3,c1,c2,d1⟩<;>(rintro rfl;first|exact a5 hb|exact a6 hb|exact b4 hb|exact b5 hb|exact c3 hb|exact c4 hb|exact d2 hb|exact d3 hb|exact e1 hb|exact e2 hb)
theorem IxH.pmSet(h:IxH L it im ie ip ii tm tc em ec pm pc dm dc Q R){f:List UInt8}{b:Nat}(hf:cy pm f=some b){k:Blk}{P:Int->Prop}(hb:qy (L.set b k) b P):IxH (L.set b k) it im ie ip ii tm tc em ec pm pc dm dc (λg x=>if g=f then P x else Q g x) R:=by
 obtain⟨n1,n2,n3,n4,_⟩:=h.ne;obtain⟨m1,m2,m3,m4,m5,m6⟩:=n3 b (vQ hf);have e:∀{i:Nat},b≠i->(L.set b k)[i]?=L[i]?:=λq=>ahx q
 refine⟨by rw[e m2];exact h.st,by rw[e m3];exact h.ty,by rw[e m4];exact h.en,by rw[e m5];exact h.pr,by rw[e m6];exact h.ids,h.tok,h.eok,h.pok,h.dok,h.pk,λg c q=>?_,λj c q=>(h.ds j c q).keep (e λw=>m1 (by rw[w];exact rz q)),h.dn,h.nd⟩;by_cases hg:g=f;subst hg;rw[hf]at q;cases q;exact hb.iff λx=>by rw[if_pos rfl]
 exact((h.ps g c q).keep (e λw=>hg (abx n1 (w▸q) hf))).iff λx=>by rw[if_neg hg]
theorem IxH.dmSet(h:IxH L it im ie ip ii tm tc em ec pm pc dm dc Q R){j:aF}{b:Nat}(hf:cy dm j=some b){k:Blk}{P:Int->Prop}(hb:qy (L.set b k) b P):IxH (L.set b k) it im ie ip ii tm tc em ec pm pc dm dc Q (λg x=>if g=j then P x else R g x):=by
 obtain⟨n1,n2,n3,n4,_⟩:=h.ne;obtain⟨m2,m3,m4,m5,m6⟩:=n4 b (rz hf);have e:∀{i:Nat},b≠i->(L.set b k)[i]?=L[i]?:=λq=>ahx q
 refine⟨by rw[e m2];exact h.st,by rw[e m3];exact h.ty,by rw[e m4];exact h.en,by rw[e m5];exact h.pr,by rw[e m6];exact h.ids,h.tok,h.eok,h.pok,h.dok,h.pk,λg c q=>(h.ps g c q).keep (e λw=>(n3 c (vQ q)).1 (by rw[<- w];exact rz hf)),λg c q=>?_,λg q x=>?_,h.nd⟩;by_cases hg:g=j;subst hg;rw[hf]at q;cases q;exact hb.iff λx=>by rw[if_pos rfl]
 exact((h.ds g c q).keep (e λw=>hg (abx n2 (w▸q) hf))).iff λx=>by rw[if_neg hg]
 have hg:g≠j:=λw=>by rw[w,hf]at q;cases q
 rw[if_neg hg];exact h.dn g q x
theorem IxH.dmNew(h:IxH L it im ie ip ii tm tc em ec pm pc dm dc Q R){j:aF}(hf:cy dm j=none):IxH ((L++[lq [] 0]).set ii (UJ (dm++[(j,L.length,dc)]) (dc+1))) it im ie ip ii tm tc em ec pm pc (dm++[(j,L.length,dc)]) (dc+1) Q R:=by
 obtain⟨n1,n2,n3,n4,a1,a2,a3,a4,b1,b2,b3,c1,c2,d1⟩:=h.ne;have hj:=vm.1 hf;have hlt:=h.lt;have hii:ii<L.length:=hlt ii (by simp);have e:∀{i:Nat},ii≠i->i<L.length->((L++[lq [] 0]).set ii (UJ (dm++[(j,L.length,dc)]) (dc+1)))[i]?=L[i]?:=λq r=>by rw[ahx q,ahi r]
 have g:∀{i:Nat}{b:Blk},L[i]?=some b->i<L.length:=λq=>(ag8.1 q).1
 refine⟨by rw[e a4.symm (g h.st)];exact h.st,by rw[e b3.symm (g h.ty)];exact h.ty,by rw[e c2.symm (g h.en)];exact h.en,by rw[e d1.symm (g h.pr)];exact h.pr,?_,h.tok,h.eok,h.pok,h.dok.add hj,h.pk,λf c q=>?_,λk c q=>?_,λk q x=>?_,?_⟩;rw[ah2 (by simp;omega)];have hc:=vQ q;exact(h.ps f c q).keep (e (n3 c hc).2.2.2.2.2.symm (hlt c (by simp only[ahc,ahb];exact .inr (.inr (.inr (.inr (.inr (.inl hc))))))));rw[HX hj]at q;by_cases hk:k=j;subst hk;rw[if_pos rfl]at q;cases q;refine⟨[],0,?_,cP.nil,(λe he=>by cases he),λx=>?_⟩;rw[ahx (by omega),ahB (ag9 _)];simp;constructor;intro hx;cases hx;intro hx;exact absurd hx (h.dn k hf x);rw[if_neg hk]at q;have hc:=rz q;exact(h.ds k c q).keep (e (n4 c hc).2.2.2.2.symm (hlt c (by simp only[ahc,ahb];exact .inr (.inr (.inr (.inr (.inr (.inr hc))))))));rw[HX hj]at q;by_cases hk:k=j;rw[if_pos hk]at q;cases q;rw[if_neg hk]at q;exact h.dn k q x;have hn:L.length∉it::im::ie::ip::ii::(pm.map (·.2.1)++dm.map (·.2.1)):=λq=>absurd (hlt _ q) (by omega)
 have hp:(it::im::ie::ip::ii::(pm.map (·.2.1)++(dm++[(j,L.length,dc)]).map (·.2.1)))=(it::im::ie::ip::ii::(pm.map (·.2.1)++dm.map (·.2.1)))++[L.length]:=by simp
 rw[hp,ajG];exact⟨h.nd,by simp,λa ha b hb w=>hn (by rw[ahs.1 hb]at w;rw[<- w];exact ha)⟩
theorem IxH.dmDel(h:IxH L it im ie ip ii tm tc em ec pm pc dm dc Q R){j:aF}(hj:∀x,¬R j x):IxH (L.set ii (UJ (gQ dm j) dc)) it im ie ip ii tm tc em ec pm pc (gQ dm j) dc Q R:=by
 obtain⟨n1,n2,n3,n4,a1,a2,a3,a4,b1,b2,b3,c1,c2,d1⟩:=h.ne;have hii:ii<L.length:=h.lt ii (by simp);have e:∀{i:Nat},ii≠i->(L.set ii (UJ (gQ dm j) dc))[i]?=L[i]?:=λq=>ahx q
 refine⟨by rw[e a4.symm];exact h.st,by rw[e b3.symm];exact h.ty,by rw[e c2.symm];exact h.en,by rw[e d1.symm];exact h.pr,ah2 hii,h.tok,h.eok,h.pok,h.dok.filter _,h.pk,λf c q=>(h.ps f c q).keep (e (n3 c (vQ q)).2.2.2.2.2.symm),λk c q=>?_,λk q x=>?_,?_⟩;rw[HW]at q;by_cases hk:k=j;rw[if_pos hk]at q;cases q;rw[if_neg hk]at q;exact(h.ds k c q).keep (e (n4 c (rz q)).2.2.2.2.symm);rw[HW]at q;by_cases hk:k=j;subst hk;exact hj x;rw[if_neg hk]at q;exact h.dn k q x;refine List.Pairwise.sublist ?_ h.nd;refine ajH _ (ajH _ (ajH _ (ajH _ (ajH _ ?_))));exact List.Sublist.append (List.Sublist.refl _) (List.Sublist.map _ ai9)
theorem IxH.enSet(h:IxH L it im ie ip ii tm tc em ec pm pc dm dc Q R){em':List (aY Int (List Atr))}{ec':Nat}(ho:cP em' ec'):IxH (L.set ie (acw em' ec')) it im ie ip ii tm tc em' ec' pm pc dm dc Q R:=by
 obtain⟨n1,n2,n3,n4,a1,a2,a3,a4,b1,b2,b3,c1,c2,d1⟩:=h.ne;have hie:ie<L.length:=h.lt ie (by simp);have e:∀{i:Nat},ie≠i->(L.set ie (acw em' ec'))[i]?=L[i]?:=λq=>ahx q
 exact⟨by rw[e a2.symm];exact h.st,by rw[e b1.symm];exact h.ty,ah2 hie,by rw[e c1];exact h.pr,by rw[e c2];exact h.ids,h.tok,ho,h.pok,h.dok,h.pk,λf c q=>(h.ps f c q).keep (e (n3 c (vQ q)).2.2.2.1.symm),λk c q=>(h.ds k c q).keep (e (n4 c (rz q)).2.2.1.symm),h.dn,h.nd⟩
end
def Xn(x:Int):List Int->List Int
 |[]=>[x]
 |y::l=>if x<=y then x::y::l else y::Xn x l
def eg(l:List Int):List Int:=l.foldr Xn []
theorem OG(x:Int):∀l:List Int,(Xn x l).Perm (x::l)
 |[]=>.refl _
 | y::l=>by
   unfold Xn;split
   .exact .refl _
   .exact((OG x l).cons y).trans (.swap x y l)
theorem cQ:∀l:List Int,(eg l).Perm l
 |[]=>.refl _
 |x::l=>(OG x _).trans ((cQ l).cons x)
theorem Yt(x:Int):∀l:List Int,l.Pairwise (·<=·)->(Xn x l).Pairwise (·<=·)
 |[],_=>by simp[Xn]
 | y::l,h=>by
   have h':=ahR.1 h;unfold Xn;split
   .rename_i hle;refine ahR.2 ⟨λz hz=>?_,h⟩;rcases ahc.1 hz with rfl|hz
    .exact hle
    .exact Int.le_trans hle (h'.1 z hz)
   .rename_i hle;refine ahR.2 ⟨λz hz=>?_,Yt x l h'.2⟩;rcases ahc.1 ((OG x l).mem_iff.1 hz)with rfl|hz
    .omega
    .exact h'.1 z hz
theorem vk:∀l:List Int,(eg l).Pairwise (·<=·)
 |[]=>.nil
 |x::l=>Yt x _ (vk l)
theorem TI(l:List Int):l.mergeSort (λx y=>decide (x<=y))=eg l:=by refine aj3 (le:=λa b=>a<=b) (λa b _ _ h1 h2=>Int.le_antisymm h1 h2) ?_ (vk l) ((ajm l _).trans (cQ l).symm);have:=akd (le:=λx y:Int=>decide (x<=y)) (λa b c h1 h2=>by simp only[decide_eq_true_eq]at *;omega) (λa b=>by simp only[ahO,decide_eq_true_eq];omega) l;exact this.imp λh=>by simpa using h
def vI:List (AV×AV×Nat)->Option (List Int)
 |[]=>some []
 |(.int .i64 k,_,_)::l=>(vI l).map (k::·)
 |_=>none
def OB:List Nat->Bool
 |[]=>true
 |x::l => !l.contains x&&OB l
def OA:List Int->Bool
 |[]=>true
 |x::l => !l.contains x&&OA l
theorem Tv:∀{l:List Nat},OB l=true->l.Nodup
 |[],_=>ajx
 |x::l,h=>by simp only[OB,ahe,ahM,ahW,decide_eq_false_iff_not]at h;exact ah6.2 ⟨h.1,Tv h.2⟩
theorem Tt:∀{l:List Int},OA l=true->l.Nodup
 |[],_=>ajx
 |x::l,h=>by simp only[OA,ahe,ahM,ahW,decide_eq_false_iff_not]at h;exact ah6.2 ⟨h.1,Tt h.2⟩
def Qz(es:List (AV×AV×Nat))(ck:Nat)(ks:List Int):Bool :=
 ks.all (λk=>decide (-9223372036854775808<=k/\k<=9223372036854775807))&&OA ks&&OB (es.map (·.2.2))&&es.all (λe=>decide (e.2.2<ck))&&decide (es.length<=1000)
theorem TA{E:Env}:∀{es:List (AV×AV×Nat)}{rs:List MapEntry}{ks:List Int},ao E es rs->vI es=some ks->rs.map (·.key)=ks.map (Value.int .i64)/\rs.map (·.born)=es.map (·.2.2)
 |[],rs,ks,hm,hk=>by simp only[ao]at hm;subst hm;simp only[vI,aha]at hk;subst hk;exact⟨rfl,rfl⟩
 | (q,x,b)::es,rs,ks,hm,hk=>by
   simp only[ao]at hm;obtain⟨e,t,rfl,h1,h2,h3,h4⟩:=hm;cases q<;>try (simp[vI]at hk;done)
   rename_i kd k;cases kd<;>simp only[vI,reduceCtorEq,ahA]at hk;obtain⟨ks',h5,rfl⟩:=hk;obtain⟨i1,i2⟩:=TA h4 h5;simp only[VR]at h1;exact⟨by simp[h1,i1],by simp[h3,i2]⟩
theorem Tz:∀xs:List (aY Int Bool),vI (aT (AV.int .i64) AV.bool xs)=some (xs.map (·.1))
 |[]=>rfl
 |x::t=>by have ih:=Tz t;unfold aT at ih⊢;rw[ahl,ahl];simp only[DP,vI,ih,ahu]
theorem Tw:∀{l:List Nat},l.Nodup->OB l=true
 |[],_=>rfl
 |x::l,h=>by rw[ah6]at h;simp only[OB,ahe,ahM,ahW,decide_eq_false_iff_not];exact⟨h.1,Tw h.2⟩
theorem Tu:∀{l:List Int},l.Nodup->OA l=true
 |[],_=>rfl
 |x::l,h=>by rw[ah6]at h;simp only[OA,ahe,ahM,ahW,decide_eq_false_iff_not];exact⟨h.1,Tu h.2⟩
theorem VT{ks l:List Int}(hn:ks.Nodup)(hl:l.Pairwise (· < ·))(h:∀x,x∈ks↔x∈l):eg ks=l:=by
 have hp:=cQ ks;refine Tg ?_ hl λx=>(hp.mem_iff).trans (h x)
 have hnd:(eg ks).Nodup:=hp.nodup_iff.2 hn;exact(vk ks).imp₂ (λa b h1 h2=>by omega) hnd
theorem qy.rise(h:qy L b P){l:List Int}(hl:l.Pairwise (· < ·))(hp:∀x,P x↔x∈l)(hi:∀x∈l,-9223372036854775808<=x/\x<=9223372036854775807)(hn:l.length<=1000):
  ∃es ck ks,L[b]?=some (.map es ck)/\vI es=some ks/\Qz es ck ks=true/\eg ks=l/\ks.length=l.length:=by
 obtain⟨xs,ck,h1,h2,h3,h4⟩:=h;have hm:∀x,x∈xs.map (·.1)↔x∈l:=λx=>(h4 x).trans (hp x)
 have hs:=VT h2.keys hl hm;have hlen:(xs.map (·.1)).length=l.length:=by rw[<- hs];exact(cQ _).length_eq.symm
 refine⟨_,ck,xs.map (·.1),h1,Tz xs,?_,hs,hlen⟩;have e1:(aT (AV.int .i64) AV.bool xs).map (·.2.2)=xs.map (·.2.2):=by unfold aT;rw[ahK];rfl
 unfold Qz;rw[e1,Tw h2.born,Tu h2.keys];simp only[ahe,aia,ajg,ahk,decide_eq_true_eq];refine⟨⟨λk hk=>hi k ((hm k).1 hk),λe he=>?_⟩,?_⟩;unfold aT at he;obtain⟨q,hq,rfl⟩:=ahd.1 he;exact h2.lt q hq;unfold aT;rw[ahP];rw[ahP]at hlen;omega
theorem Tl   :x∈lr (cz id l) f↔x∈lr l f/\x≠id:=by rw[u7,u7];constructor;rintro⟨b,h1,h2⟩;obtain⟨e,e2⟩:=fW.1 h1;exact⟨⟨b,e,h2⟩,e2⟩;rintro⟨⟨b,h1,h2⟩,h3⟩;exact⟨b,fW.2 ⟨h1,h3⟩,h2⟩
def Mh(em:List (aY Int (List Atr)))(l:List bd):Prop:=∀id a,cy em id=some a↔(id,a)∈l
theorem Mh.nil:Mh [] []:=λid a=>by simp[cy]
theorem Mh.out(h:Mh em l):cy em id=none↔∀a,(id,a)∉l:=by
 constructor;intro q a m;rw[(h id a).2 m]at q;cases q;intro q;cases hg:cy em id with
 |none=>rfl
 |some a=>exact absurd ((h id a).1 hg) (q a)
theorem Mh.drop(h:Mh em l)(id:Int):Mh (gQ em id) (cz id l):=λj a=>by rw[HW,fW];by_cases hj:j=id;rw[if_pos hj];simp[hj];rw[if_neg hj,h j a];exact⟨λq=>⟨q,hj⟩,λq=>q.1⟩
theorem Mh.put(h:Mh em (cz id l))(a:List Atr):Mh (pV em id a ck) (DN id a l):=λj b=>by rw[acn,kK];by_cases hj:j=id;subst hj;rw[if_pos rfl];constructor;intro q;cases q;exact .inl rfl;rintro(q|⟨_,q⟩);cases q;rfl;exact absurd rfl q;rw[if_neg hj,h j b,fW];constructor;rintro⟨q1,q2⟩;exact .inr ⟨q1,q2⟩;rintro(q|⟨q1,q2⟩);cases q;exact absurd rfl hj;exact⟨q1,q2⟩
theorem Z8(h:∀a,(id,a)∉l):cz id l=l:=by
 unfold cz;refine ajq.2 λe he=>?_
 have:e.1≠id:=λq=>h e.2 (by rw[<- q];exact he)
 simpa using this
def SC(R:aF->Int->Prop)(id:Int)(ks:List aF):aF->Int->Prop:=λk x=>R k x\/(x=id/\k∈ks)
def OV(R:aF->Int->Prop)(id:Int)(ks:List aF):aF->Int->Prop:=λk x=>R k x/\¬(x=id/\k∈ks)
theorem Tk{R:aF->Int->Prop}{j:aF}(k:aF)(x:Int):(if k=j then(SC R id ks j x\/x=id)else SC R id ks k x)↔SC R id (ks++[j]) k x:=by unfold SC;by_cases h:k=j;subst h;rw[if_pos rfl];simp only[ahb,ahs];constructor;rintro((q|q)|q);exact .inl q;exact .inr ⟨q.1,.inl q.2⟩;exact .inr ⟨q,.inr trivial⟩;rintro(q|⟨q,_⟩);exact .inl (.inl q);exact .inr q;rw[if_neg h];simp only[ahb,ahs,h,or_false]
theorem OU{R:aF->Int->Prop}{j:aF}(k:aF)(x:Int):(if k=j then(OV R id ks j x/\x≠id)else OV R id ks k x)↔OV R id (ks++[j]) k x:=by unfold OV;by_cases h:k=j;subst h;rw[if_pos rfl];simp only[ahb,ahs];constructor;rintro⟨⟨q1,q2⟩,q3⟩;exact⟨q1,λw=>q3 w.1⟩;rintro⟨q1,q2⟩;exact⟨⟨q1,λw=>q2 ⟨w.1,.inl w.2⟩⟩,λw=>q2 ⟨w,.inr trivial⟩⟩;rw[if_neg h];simp only[ahb,ahs,h,or_false]
theorem acz(hr:gU l)(ha:(id,a)∈l)(hk:∀k,k∈ks↔k∈fo tys a)(k:aF)(x:Int):OV (λk x=>x∈fD tys l k) id ks k x↔x∈fD tys (cz id l) k:=by unfold OV;rw[TN];constructor;rintro⟨q1,q2⟩;refine⟨q1,λw=>?_⟩;subst w;obtain⟨b,m1,m2⟩:=qg.1 q1;have e:=Zg hr m1 ha rfl;cases e;exact q2 ⟨rfl,(hk k).2 m2⟩;rintro⟨q1,q2⟩;exact⟨q1,λw=>q2 w.1⟩
theorem abi(hk:∀k,k∈ks↔k∈fo tys a)(k:aF)(x:Int):SC (λk x=>x∈fD tys (cz id l) k) id ks k x↔x∈fD tys (DN id a l) k:=by unfold SC;simp only;rw[TN,ab4,hk]
abbrev TMp:=List (aY (List UInt8) Typ)
def iV(tm:TMp):List (List UInt8×Int):=tm.map λe=>(e.1,e.2.1.2.1)
def IS(ts:List Typ):TMp->List (List UInt8)->Int×TMp
 |tm,[]=>(0,tm)
 | tm,n::r=>match fw ts n with
   |none=>(20,tm)
   |some ty=>if af n∈tm.map (·.1)then(21,tm)else IS ts (tm++[(af n,ty,tm.length)]) r
structure TmS(ts:List Typ)(tm:TMp):Prop where
 ok:cP tm tm.length
 ty:∀e∈tm,∃n,fw ts n=some e.2.1/\af n=e.1/\a7 n
theorem TmS.nil(ts:List Typ):TmS ts []:=⟨cP.nil,λe he=>by cases he⟩
theorem TmS.add{tm:TMp}(h:TmS ts tm){ty:Typ}(ht:fw ts n=some ty)(hn:af n∉tm.map (·.1))(hr:a7 n):TmS ts (tm++[(af n,ty,tm.length)]):=by refine⟨?_,λe he=>?_⟩;have:=h.ok.add (w:=ty) hn;rw[ahq];exact this;rcases ahb.1 he with he|he;exact h.ty e he;rw[ahs.1 he];exact⟨n,ht,rfl,hr⟩
theorem Uz{ts:List Typ}:∀{ns:List (List UInt8)}{tm:TMp},TmS ts tm->(∀n∈ns,a7 n)->TmS ts (IS ts tm ns).2
 |[],tm,h,_=>h
 | n::r,tm,h,hr=>by
   rw[IS];cases ht:fw ts n with
   |none=>exact h
   | some ty =>
     simp only;split
     .exact h
     .rename_i hn;exact Uz (h.add ht hn (hr n (by simp))) λm hm=>hr m (by simp[hm])
def IxO(L:List Blk)(it:Nat)(tm:TMp)(l:List bd)(B:Nat->Prop):Prop :=
 ∃im ie ip ii em ec pm pc dm dc,IxH L it im ie ip ii tm tm.length em ec pm pc dm dc (λf x=>x∈lr l f) (λk x=>x∈fD (iV tm) l k)/\Mh em l/\gU l/\∀i,B i↔i∈it::im::ie::ip::ii::(pm.map (·.2.1)++dm.map (·.2.1))
structure bH(B:Nat->Prop)(L L':List Blk):Prop where
 len:L.length<=L'.length
 eq:∀i,i<L.length->¬B i->L'[i]?=L[i]?
theorem bH.refl(L:List Blk):bH B L L:=⟨ag9 _,λ_ _ _=>rfl⟩
theorem bH.app(L X:List Blk):bH B L (L++X):=⟨by simp,λi hi _=>ahi hi⟩
theorem bH.trans{B':Nat->Prop}{L1:List Blk}(h:bH B L L1)(g:bH B' L1 L2)(hb:∀i,i<L.length->B' i->B i):bH B L L2:=⟨ahy h.len g.len,λi hi hn=>by rw[g.eq i (aiA hi h.len) (λe=>hn (hb i hi e)),h.eq i hi hn]⟩
theorem bH.set(L:List Blk)(hj:B j\/L.length<=j)(b:Blk):bH B L (L.set j b):=⟨by simp,λi hi hb=>ahx (λe=>by rcases hj with hj|hj;exact hb (by rw[<- e];exact hj);omega)⟩
theorem bH.get(h:bH B L L'){b:Blk}(hi:L[i]?=some b)(hb:¬B i):L'[i]?=some b:=by rw[h.eq i (ag8.1 hi).1 hb];exact hi
theorem IxO.lt{tm:TMp}(h:IxO L it tm l B)(hi:B i):i<L.length:=by obtain⟨im,ie,ip,ii,em,ec,pm,pc,dm,dc,h1,_,_,h4⟩:=h;exact h1.lt i ((h4 i).1 hi)
theorem IxO.own{tm:TMp}(h:IxO L it tm l B):B it:=by obtain⟨im,ie,ip,ii,em,ec,pm,pc,dm,dc,h1,_,_,h4⟩:=h;exact(h4 it).2 (by simp)
theorem IxO.rise{tm:TMp}(h:IxO L it tm l B):gU l:=by obtain⟨im,ie,ip,ii,em,ec,pm,pc,dm,dc,h1,_,h3,h4⟩:=h;exact h3
theorem IxO.keep{tm:TMp}{C:Nat->Prop}(h:IxO L it tm l B)(hb:bH C L L')(hd:∀i,B i->¬C i):IxO L' it tm l B:=by
 have hlt:=λi hi=>h.lt (i:=i) hi
 obtain⟨im,ie,ip,ii,em,ec,pm,pc,dm,dc,h1,h2,h3,h4⟩:=h;exact⟨im,ie,ip,ii,em,ec,pm,pc,dm,dc,h1.keep λi hi=>hb.eq i (h1.lt i hi) (hd i ((h4 i).2 hi)),h2,h3,h4⟩
theorem IxO.app{tm:TMp}(h:IxO L it tm l B)(X:List Blk):IxO (L++X) it tm l B:=h.keep (C:=λ_=>False) (bH.app L X) λ_ _ e=>e
section
variable {L:List Blk}{it im ie ip ii:Nat}{tm:TMp}{em:List (aY Int (List Atr))}{ec:Nat}{pm:List (aY (List UInt8) Nat)}{pc:Nat}{dm:List (aY aF Nat)}{dc:Nat}{Q:List UInt8->Int->Prop}{R:aF->Int->Prop}
theorem IxH.tyNew(h:IxH L it im ie ip ii tm tm.length em ec pm pc dm dc Q R){f:List UInt8}(hf:f∉tm.map (·.1))(ty:Typ)(hq:∀x,¬Q f x):
  IxH (((L.set im (WK (tm++[(f,ty,tm.length)]) (tm.length+1)))++[lq [] 0]).set ip (abn (pm++[(f,L.length,pc)]) (pc+1))) it im ie ip ii (tm++[(f,ty,tm.length)]) (tm++[(f,ty,tm.length)]).length em ec (pm++[(f,L.length,pc)]) (pc+1) dm dc Q R:=by
 obtain⟨n1,n2,n3,n4,a1,a2,a3,a4,b1,b2,b3,c1,c2,d1⟩:=h.ne;have hlt:=h.lt;have him:im<L.length:=hlt im (by simp);have hip:ip<L.length:=hlt ip (by simp);have hfp:f∉pm.map (·.1):=λe=>hf ((h.pk f).1 e)
 have e:∀{i:Nat},ip≠i->im≠i->i<L.length->(((L.set im (WK (tm++[(f,ty,tm.length)]) (tm.length+1)))++[lq [] 0]).set ip (abn (pm++[(f,L.length,pc)]) (pc+1)))[i]?=L[i]?:=λq1 q2 r=>by rw[ahx q1,ahi (by simpa using r),ahx q2]
 have g:∀{i:Nat}{b:Blk},L[i]?=some b->i<L.length:=λq=>(ag8.1 q).1
 have hl1:(tm++[(f,ty,tm.length)]).length=tm.length+1:=by simp
 refine⟨by rw[e a3.symm a1.symm (g h.st)];exact h.st,?_,by rw[e c1.symm b1 (g h.en)];exact h.en,?_,by rw[e d1 b3 (g h.ids)];exact h.ids,by rw[hl1];exact h.tok.add hf,h.eok,h.pok.add hfp,h.dok,λg=>?_,λk c q=>?_,λk c q=>?_,h.dn,?_⟩;rw[ahx b2.symm,ahi (by simpa using him),ah2 him,hl1];rw[ah2 (by simp;omega)];rw[ahE,ahE,ahb,ahb,h.pk];simp;rw[HX hfp]at q;by_cases hk:k=f;subst hk;rw[if_pos rfl]at q;cases q;refine⟨[],0,?_,cP.nil,(λe he=>by cases he),λx=>?_⟩;rw[ahx (by omega),ahB (by simp)];simp;exact⟨λhx=>(by cases hx),λhx=>absurd hx (hq x)⟩;rw[if_neg hk]at q;have hc:=vQ q;obtain⟨m1,m2,m3,m4,m5,m6⟩:=n3 c hc;exact(h.ps k c q).keep (e m5.symm m3.symm (hlt c (by simp only[ahc,ahb];exact .inr (.inr (.inr (.inr (.inr (.inl hc))))))));have hc:=rz q;obtain⟨m2,m3,m4,m5,m6⟩:=n4 c hc;exact(h.ds k c q).keep (e m5.symm m3.symm (hlt c (by simp only[ahc,ahb];exact .inr (.inr (.inr (.inr (.inr (.inr hc))))))));have hn:L.length∉it::im::ie::ip::ii::(pm.map (·.2.1)++dm.map (·.2.1)):=λq=>absurd (hlt _ q) (by omega)
 have hp:(it::im::ie::ip::ii::((pm++[(f,L.length,pc)]).map (·.2.1)++dm.map (·.2.1))).Perm (L.length::(it::im::ie::ip::ii::(pm.map (·.2.1)++dm.map (·.2.1)))):=by have e1:it::im::ie::ip::ii::((pm++[(f,L.length,pc)]).map (·.2.1)++dm.map (·.2.1))=(it::im::ie::ip::ii::pm.map (·.2.1))++L.length::dm.map (·.2.1):=(by simp);rw[e1];exact List.perm_middle
 exact hp.nodup_iff.2 (ah6.2 ⟨hn,h.nd⟩)
theorem IxH.start{L:List Blk}{it im ie ip ii:Nat}(h1:L[it]?=some (.cells [.lmap im,.lmap ie,.lmap ip,.lmap ii]))(h2:L[im]?=some (WK [] 0))(h3:L[ie]?=some (acw [] 0))(h4:L[ip]?=some (abn [] 0))(h5:L[ii]?=some (UJ [] 0))(hn:[it,im,ie,ip,ii].Nodup){Q:List UInt8->Int->Prop}{R:aF->Int->Prop}(hr:∀k x,¬R k x):
  IxH L it im ie ip ii [] 0 [] 0 [] 0 [] 0 Q R :=
 ⟨h1,h2,h3,h4,h5,cP.nil,cP.nil,cP.nil,cP.nil,λf=>by simp,λf b e=>(by simp[cy]at e),λf b e=>(by simp[cy]at e),λk _ x=>hr k x,by simpa using hn⟩
end
section
variable {κ υ:Type}
structure vz(xs ps:List (aY κ υ))(seen:List Nat):Prop where
 sub:∀x∈ps,x∈xs
 eq:seen=ps.map (·.2.2)
theorem vz.nil{xs:List (aY κ υ)}:vz xs [] []:=⟨λ_ h=>(by cases h),rfl⟩
theorem vz.next{xs ps:List (aY κ υ)}{seen:List Nat}(h:vz xs ps seen){x:aY κ υ}(hx:x∈xs):vz xs (ps++[x]) (seen++[x.2.2]):=by refine⟨λy hy=>?_,by rw[h.eq];simp⟩;rcases ahb.1 hy with hy|hy;exact h.sub y hy;rw[ahs.1 hy];exact hx
theorem abD{α β:Type}{f:α->β}:∀{l:List α},(l.map f).Nodup->∀{a b:α},a∈l->b∈l->f a=f b->a=b
 | x::l,h,a,b,ha,hb,e=>by
   rw[ahl,ah6]at h;rcases ahc.1 ha with h1|h1
   .rcases ahc.1 hb with h2|h2
    .rw[h1,h2]
    .exact absurd (ahd.2 ⟨b,h2,by rw[<- e,h1]⟩) h.1
   .rcases ahc.1 hb with h2|h2
    .exact absurd (ahd.2 ⟨a,h1,by rw[e,h2]⟩) h.1
    .exact abD h.2 h1 h2 e
theorem vz.all{xs ps:List (aY κ υ)}{seen:List Nat}{ck:Nat}(h:vz xs ps seen)(hx:cP xs ck)(ha:∀x∈xs,seen.contains x.2.2=true)(x:aY κ υ):x∈ps↔x∈xs:=by refine⟨h.sub x,λhm=>?_⟩;have:=ha x hm;rw[ah1,h.eq]at this;obtain⟨y,hy,e⟩:=ahd.1 this;rw[<- abD (f:=λx:aY κ υ=>x.2.2) hx.born (h.sub y hy) hm e];exact hy
theorem afd{xs:List (aY κ υ)}{seen:List Nat}{x:aY κ υ}(hx:x∈xs)(hs:seen.contains x.2.2=false):(xs.filter λr => !(seen++[x.2.2]).contains r.2.2).length<(xs.filter λr => !seen.contains r.2.2).length:=by
 have e:(xs.filter λr => !(seen++[x.2.2]).contains r.2.2)=(xs.filter λr => !seen.contains r.2.2).filter (λr=>decide (r.2.2≠x.2.2)):=by
  rw[List.filter_filter];refine ajI λr _=>?_
  by_cases h:r.2.2=x.2.2<;>simp[h]
 rw[e];refine akf.2 ⟨x,ahI.2 ⟨hx,by rw[hs];rfl⟩,by simp⟩
end
theorem bH.weak{C:Nat->Prop}(h:bH B L L')(hb:∀i,i<L.length->B i->C i):bH C L L':=⟨h.len,λi hi hn=>h.eq i hi λe=>hn (hb i hi e)⟩
structure DoK(P:Program)(f:FuncId)(caps:List AV)(it im ie ip ii:Nat)(tm:TMp)(J:List aF->(Nat->Prop)->List Blk->Prop):Prop where
 st:∀ks B L,J ks B L->L[it]?=some (.cells [.lmap im,.lmap ie,.lmap ip,.lmap ii])
 ty:∀ks B L,J ks B L->L[im]?=some (WK tm tm.length)
 lt:∀ks B L,J ks B L->∀i,B i->i<L.length
 keep:∀ks B L L',J ks B L->bH (λi=>¬B i) L L'->J ks B L'
 go:∀ks B L k (K:AV->List Blk->Prop),J ks B L->(∀L' B',J (ks++[k]) B' L'->bH B L L'->(∀i,B' i->B i\/L.length<=i)->K (.tup []) L')->ab P f (oN k::caps) L K
def EaI(J:List aF->(Nat->Prop)->List Blk->Prop)(B0:Nat->Prop)(L0:List Blk)(F:List (Nat×Blk))(M:aF->Prop)(L1:List Blk):Prop :=
 ∃ks B',J ks B' L1/\(∀k,k∈ks↔M k)/\bH B0 L0 L1/\(∀i,B' i->B0 i\/L0.length<=i)/\∀p∈F,¬B' p.1/\L1[p.1]?=some p.2/\L0.length<=p.1
section
variable {P:Program}{f:FuncId}{caps:List AV}{it im ie ip ii:Nat}{tm:TMp}{J:List aF->(Nat->Prop)->List Blk->Prop}{B0:Nat->Prop}{L0 L1:List Blk}{F:List (Nat×Blk)}{M:aF->Prop}
theorem EaI.iff{M':aF->Prop}(h:EaI J B0 L0 F M L1)(e:∀k,M k↔M' k):EaI J B0 L0 F M' L1:=by obtain⟨ks,B',h1,h2,h3⟩:=h;exact⟨ks,B',h1,λk=>(h2 k).trans (e k),h3⟩
theorem EaI.sub{F':List (Nat×Blk)}(h:EaI J B0 L0 F M L1)(e:∀p∈F',p∈F):EaI J B0 L0 F' M L1:=by obtain⟨ks,B',h1,h2,h3,h4,h5⟩:=h;exact⟨ks,B',h1,h2,h3,h4,λp hp=>h5 p (e p hp)⟩
theorem EaI.at(h:EaI J B0 L0 F M L1){i:Nat}{b:Blk}(e:(i,b)∈F):L1[i]?=some b:=by obtain⟨ks,B',h1,h2,h3,h4,h5⟩:=h;exact(h5 _ e).2.1
theorem EaI.len(h:EaI J B0 L0 F M L1):L0.length<=L1.length:=by obtain⟨ks,B',h1,h2,h3,h4,h5⟩:=h;exact h3.len
theorem EaI.start{L0:List Blk}{B0:Nat->Prop}(h:J [] B0 L0):EaI J B0 L0 [] (λ_=>False) L0 :=
 ⟨[],B0,h,λk=>by simp,.refl _,λi hi=>.inl hi,λp hp=>by cases hp⟩
theorem EaI.app(hd:DoK P f caps it im ie ip ii tm J)(h:EaI J B0 L0 F M L1)(b:Blk):EaI J B0 L0 ((L1.length,b)::F) M (L1++[b]):=by obtain⟨ks,B',h1,h2,h3,h4,h5⟩:=h;refine⟨ks,B',hd.keep _ _ _ _ h1 (bH.app _ _),h2,h3.trans (bH.app (B:=λ_=>False) _ _) (λi _ e=>e.elim),h4,λp hp=>?_⟩;rcases ahc.1 hp with rfl|hp;exact⟨λe=>absurd (hd.lt _ _ _ h1 _ e) (by simp),by simp,h3.len⟩;obtain⟨g1,g2,g3⟩:=h5 p hp;exact⟨g1,ag3 g2,g3⟩
theorem EaI.turn(hd:DoK P f caps it im ie ip ii tm J){i:Nat}{b:Blk}(h:EaI J B0 L0 ((i,b)::F) M L1)(b':Blk)(hF:∀p∈F,p.1≠i):EaI J B0 L0 ((i,b')::F) M (L1.set i b'):=by obtain⟨ks,B',h1,h2,h3,h4,h5⟩:=h;obtain⟨q1,q2,q3⟩:=h5 (i,b) (by simp);simp only at q1 q2 q3;refine⟨ks,B',hd.keep _ _ _ _ h1 (bH.set _ (.inl q1) _),h2,h3.trans (bH.set (B:=λj=>j=i) L1 (.inl rfl) b') (λj hj e=>absurd hj (by omega)),h4,λp hp=>?_⟩;rcases ahc.1 hp with rfl|hp;exact⟨q1,ah2 (ag8.1 q2).1,q3⟩;obtain⟨g1,g2,g3⟩:=h5 p (by simp[hp]);exact⟨g1,by rw[ahx (λe=>hF p hp e.symm)];exact g2,g3⟩
theorem EaI.st(hd:DoK P f caps it im ie ip ii tm J)(h:EaI J B0 L0 F M L1):L1[it]?=some (.cells [.lmap im,.lmap ie,.lmap ip,.lmap ii])/\L1[im]?=some (WK tm tm.length):=by obtain⟨ks,B',h1,_⟩:=h;exact⟨hd.st _ _ _ h1,hd.ty _ _ _ h1⟩
theorem EaI.go(hd:DoK P f caps it im ie ip ii tm J)(h:EaI J B0 L0 F M L1){k:aF}{K:ag7}(hk:∀L2,EaI J B0 L0 F (λx=>M x\/x=k) L2->L1.length<=L2.length->K (.tup []) L2):ab P f (oN k::caps) L1 K:=by
 obtain⟨ks,B',h1,h2,h3,h4,h5⟩:=h;refine hd.go ks B' L1 k K h1 λL2 B2 g1 g2 g3=>hk L2 ⟨ks++[k],B2,g1,λx=>by simp[h2],h3.trans g2 (λi hi e=>(h4 i e).resolve_right (by omega)),λi hi=>?_,λp hp=>?_⟩ g2.len
 rcases g3 i hi with e|e;exact h4 i e;exact .inr (ahy h3.len e);obtain⟨q1,q2,q3⟩:=h5 p hp;have hl:=(ag8.1 q2).1;refine⟨λe=>?_,g2.get q2 q1,q3⟩;rcases g3 _ e with e|e;exact q1 e;omega
end
variable {L:List Blk}{K:ag7}
set_option maxHeartbeats 8000000
set_option maxRecDepth 100000
def DH(l:List UInt8):Bool:=l.any λc=>c != 32
def Mw(t:List UInt8)(k:Nat):List UInt8:=if DH (t.drop k)=true then bI (t.take k)else dk (bI (t.take k))
theorem TW{t:List UInt8}{k:Nat}(h:k<t.length):t.drop k=t.getD k 0::t.drop (k+1):=by rw[ahV h,ahz,ahn h];rfl
theorem Rz(c:UInt8)(l:List UInt8):DH (c::l)=(c != 32 ||DH l):=rfl
theorem fR(b:List UInt8)(c:UInt8):dk (b++[c])=if c=32 then b else b++[c]:=by simp[dk]
theorem Rt(t:List UInt8):∀k,k<=t.length->bI (t.take k)≠[]->(vq (bI (t.take k))=true↔t.getD (k-1) 0=32)
 |0,_,h=>by simp[bI]at h
 | k+1,hk,h=>by
   have ih:=Rt t k (by omega);rw[vF (show k<t.length by omega)]at h⊢;rw[show k+1-1=k by omega];unfold ax at h⊢;split
   .rename_i e;exact⟨λ_=>e.1,λ_=>e.2⟩
   .simp[vq]
theorem Zj{t:List UInt8}{k:Nat}(h:k<t.length):Mw t (k+1) =
  if DH (t.drop k)=false\/(t.getD k 0=32/\(Mw t k=[]\/t.getD (k-1) 0=32))then Mw t k else Mw t k++[t.getD k 0]:=by
 have hd:=TW h;have hl:=Rt t k (by omega);unfold Mw;rw[vF h,hd,Rz];obtain⟨c,hc⟩:=ag2 (t.getD k 0);obtain⟨p,hp⟩:=ag2 (bI (t.take k));rw[hc];rw[hp]at hl⊢;have he:p=[]->vq p=true:=λe=>by rw[e];rfl
 by_cases h32:c=32;subst h32;by_cases hn:DH (t.drop (k+1))=true;simp only[hn,bne_self_eq_false,aiJ,if_true,ax,true_and,aij,false_or];by_cases hp0:p=[];simp[hp0,vq];simp[hp0,hl hp0];have hn':DH (t.drop (k+1))=false:=by simpa using hn
 simp only[hn',bne_self_eq_false,aiJ,ahp,if_false,true_or,if_true];unfold ax;split;rfl;rename_i e;rw[fR,if_pos rfl];unfold dk;rw[if_neg];intro e2;exact e ⟨rfl,by simp[vq,e2]⟩;have hb:(c != 32)=true:=by simpa using h32
 simp only[hb,ajk,if_true,h32,false_and,or_false,aij,if_false];have:ax p c=p++[c]:=by rw[ax,if_neg λe=>h32 e.1]
 rw[this,fR,if_neg h32];split<;>rfl
theorem Zi(t:List UInt8):Mw t 0=[]:=by unfold Mw;split<;>simp[bI,dk]
theorem abc(t:List UInt8):Mw t t.length=dk (bI t):=by simp[Mw,DH]
theorem abb(t:List UInt8)(k:Nat):(Mw t k).length<=k:=by have:=pM t k;unfold Mw;split;exact this;unfold dk;split;simp;omega;exact this
theorem vB{s:List UInt8}(hs:(s.length:Int)<=100000)(h:K (.str (bz s)) L):ag6 90 [.str s] L K:=by
 replace h:=hid h;refine ad Ql (by simp[wa]) ?_;simp only[wa,am];obtain⟨t,ht⟩:=ag2 (af s);have htl:(t.length:Int)<=100000:=by rw[<- ht];simpa[af]using hs
 have hfin:=hid (show Mw t t.length=bz s by rw[abc,bz,ht]);have kk1:=@hid _ (λL K=>mP hs (L:=L) (K:=K));refine wk ?_;refine bX (l:=[]) (n:=0) 4 1 rfl (ahD 1).symm ?_;refine ak (λn T' L'=>∃(k:Nat) (b:List UInt8) (v:List AV) (m:Nat),n=t.length-k/\k<=t.length/\b=Mw t k/\v=u8s b/\m=b.length/\T'=[(5,.int .i64 (k:Int)),(4,.gsl v m L.length 1),(3,.str t),(2,.str [])]/\L'=L++[.spare m 1]) (CutS (b:=by simp)) ⟨0,[],[],0,rfl,ahf _,(Zi t).symm,rfl,rfl,rfl,rfl⟩ ?_;rintro _ _ _ ⟨k,b,v,m,rfl,hk,hb,rfl,rfl,rfl,rfl⟩;replace hb:=hid hb;by_cases hlt:k<t.length
 .have h1:(k:Int)<(t.length:Int):=(by omega);have h2:=ag4 k (by omega);refine wk ?_;have hbl:b.length<=k:=(by rw[hb.out];exact abb t k);have hub:(u8s b).length=b.length:=(by simp[u8s]);have hsucc:=hid (Zj hlt);refine ak (λn T' L'=>∃(j:Nat) (later:Bool),n=t.length-j/\j<=t.length/\(later=true->DH (t.drop k)=true)/\(later=false->DH (t.drop k)=DH (t.drop j))/\T'=[(7,.int .i64 (j:Int)),(6,.bool later),(5,.int .i64 (k:Int)),(4,.gsl (u8s b) b.length L.length 1),(3,.str t),(2,.str [])]/\L'=L++[.spare b.length 1]) (CutS (b:=by simp)) ⟨k,false,rfl,by omega,(by simp),(by simp),rfl,rfl⟩ ?_;rintro _ _ _ ⟨j,later,rfl,hj,hla,hlb,rfl,rfl⟩;replace hla:=hid hla;replace hlb:=hid hlb;obtain⟨c,hc⟩:=ag2 (t.getD k 0);rw[hc]at hsucc;have hc':((t[k]?.getD 0))=c:=(by rw[<- hc,ahz]);cases later;by_cases hjl:j<t.length;have g1:(j:Int)<(t.length:Int):=(by omega);have g2:=ag4 j (by omega);have hd:=hid (TW hjl);obtain⟨x,hx⟩:=ag2 (t.getD j 0);rw[hx]at hd;refine wk ?_;have hx32:(x != 32) = !decide ((x.toNat:Int)=32):=by have:(x.toNat:Int)=32↔x=32:=⟨λh=>aiS.1 (by have:(32:UInt8).toNat=32:=rfl;omega),λh=>by rw[h];rfl⟩;by_cases h:x=32<;>simp[h,this]
  have hnb:=hlb.out rfl;rw[hd.out,Rz,hx32]at hnb;refine ah _ _ _ (by omega) (CutL (b:=by simp)) ⟨j+1, !decide ((x.toNat:Int)=32),rfl,hjl,λe=>by rw[hnb,e];rfl,λe=>by rw[hnb,e];rfl,rfl,rfl⟩;have g1:¬(j:Int)<(t.length:Int):=(by omega);have hn:DH (t.drop k)=false:=(by rw[hlb.out rfl,aiN (by omega)];rfl);replace hsucc:=hid (show Mw t (k+1)=b by rw[hsucc.out,if_pos (.inl hn),hb.out]);refine wk ?_;exact ah _ _ _ (by omega) (CutL (b:=by simp)) ⟨k+1,b,_,b.length,rfl,hlt,hsucc.out.symm,rfl,rfl,rfl,rfl⟩
  .have hn:DH (t.drop k)=true:=hla.out rfl;have hs2:=hsucc.out;rw[hn]at hs2;simp only[aij,false_or,<- hb.out]at hs2;replace hs2:=hid hs2;have g6:b.length≠0->(1:Int)<=(k:Int):=λh=>by omega
   replace g6:=hid g6;have g7:=hid λh:1<=k=>show IntKind.i64.wrap ((k:Int)-1)=(k:Int)-1 from ac (by omega) (by omega)
   have u32:∀x:UInt8,(x.toNat:Int)=32↔x=32:=λx=>⟨λh=>aiS.1 (by have:(32:UInt8).toNat=32:=rfl;omega),λh=>by rw[h];rfl⟩
   replace u32:=hid u32
   repeat' first
    |refine br ?_
    | (first|refine bh (by kernel_rfl) ?_|refine aH (by kernel_rfl) ?_|refine aK ?_|refine cO ?_|refine bB (fun _=>?_)|refine aB ?_|refine bm ?_)
      refine sm ?_
    | (first|refine a8 (by kernel_rfl) ?_|refine bc ?_|refine aJ ?_|refine bj ?_|refine bG (aA ?_))
      refine sl ?_
    |exact bC
    |first|apply bD|apply be|apply bE|apply bf|apply bF|apply bg
    |refine aN ?_
    |refine aI ?_
    |first|refine aL rfl ?_|refine aM rfl ?_|refine aw rfl ?_ ?_|refine aQ rfl (λ_=>?_) (λ_=>?_)|refine aP rfl (λ_=>?_) (λ_=>?_)
    |((first|refine au (λ_=>?_) (λ_=>?_)|refine az (λ_=>?_) (λ_=>?_))<;>try refine sm ?_)
    |refine And.intro trivial ?_
    |refine And.intro (by omega) ?_
    |refine aU rfl (λ_=>?_) (λ_=>?_)
    |refine And.intro ?_ ?_
   rename_i hz;rw[g7.out (by omega)];omega;rename_i hz;rw[g7.out (by omega)];omega;rename_i hq;have hcond:c=32/\(b=[]\/t.getD (k-1) 0=32):=by refine⟨(u32.out c).1 hq.1,?_⟩;rcases hq.2 with e|e;exact .inl (ahH.1 (by omega));by_cases hb0:b=[];exact .inl hb0;have hk1:1<=k:=(by have:=ain.2 hb0;omega);rw[g7.out hk1,show((k:Int)-1).toNat=k-1 by omega]at e;exact .inr ((u32.out _).1 e)
   exact ah _ _ _ (by omega) (CutL (b:=by simp)) ⟨k+1,b,_,b.length,rfl,hlt,by rw[hs2.out,if_pos hcond],rfl,rfl,rfl,rfl⟩;rename_i hq;have hcond:¬(c=32/\(b=[]\/t.getD (k-1) 0=32)):=λ⟨e1,e2⟩=>hq (by refine⟨(u32.out c).2 e1,?_⟩;by_cases hb0:b=[];exact .inl (by rw[hb0];rfl);have hk1:1<=k:=(by have:=ain.2 hb0;omega);rcases e2 with e|e;exact absurd e hb0;refine .inr ?_;rw[g7.out hk1,show((k:Int)-1).toNat=k-1 by omega];exact(u32.out _).2 e)
   rw[show u8s b++[AV.int IntKind.u8 (c.toNat:Int)]=u8s (b++[c])by simp[u8s]];exact ah _ _ _ (by omega) (CutL (b:=by simp)) ⟨k+1,b++[c],_,b.length+1,rfl,hlt,by rw[hs2.out,if_neg hcond],rfl,by simp,rfl,rfl⟩
 have hke:k=t.length:=by omega
 subst hke;have h1:¬(t.length:Int)<(t.length:Int):=by omega
 have e1:=iZ b;have e2:=gw b;have e3:=hid (show b=bz s by rw[hb.out,hfin.out]);refine wk ?_;refine ae rfl ?_;rw[e3.out];exact h.out
end Go.Proofs.YtcmfcpjnhephaaaGreatDoor.Av
