/- Joined texts of the walk, made small by a program. -/
import Derived.Test.YtdnfjhflkkpokaaGreatDoorFk4
import Derived.Test.YtdnfjhflkkpokaaGreatDoorRows
import Derived.KernelRfl
import Derived.Test.YtdnfjhflkkpokaaGreatDoorFk13
import Derived.Test.YtdnfjhflkkpokaaGreatDoorFk14
import Derived.Test.YtdnfjhflkkpokaaGreatDoorFk15
import Derived.Test.YtdnfjhflkkpokaaGreatDoorFk5
import Derived.Test.YtdnfjhflkkpokaaGreatDoorFk11
import Derived.Test.YtdnfjhflkkpokaaGreatDoorFk7
set_option linter.unusedSimpArgs false
set_option linter.unusedVariables false
set_option maxRecDepth 100000
namespace Go.Proofs.YtdnfjhflkkpokaaGreatDoor.Av
open Go
variable {l:List aC}{k scope size time syn:Int}{ts:List Typ}{P:List Rdn->List UInt8->Int->Bool}{T:List Atr->Int}{names:List (List UInt8)}{tonly:Bool}{base:List Rdn}{F N:Nat}{t:TypeId}{X:Type}{a v:List UInt8}
def IT:LSO:=[Az 1 0,Af 2]
def IS:LSO:=[Ad 5 8 1,Ab 6 1 5,Ah 7 6,Ac 8 0]
def IR:LSO:=[Al 9 8 7]
def IQ:LSO:=[Am 10 1 6 8,Ab 11 1 10,Aa 4 11]
def IP:LSO:=[Ad 12 8 1,Ab 13 1 12,Ah 14 13,A8 15 14 20,Aa 16 15,.grp none 16 false
 [Ag 17 16 4,Bt 18 16 17,AC 19 16 18 100]
 20 (tm 19)]
def IN:LSO:=[Af 2]
def IM:LSO:=[Ai 21 8 1,Aa 8 21]
def IL:LSO:=[Ad 22 0 1,Ab 23 1 22,Ad 24 1 1,Ab 25 1 24,
 o1 26 (.build [(.int .i64 0),(.sl [] 0 (some 0)),(.sl [] 0 (some 0)),(.sl [] 0 (some 0))] [(1,(1,(tm 23))),(2,(1,(tm 25)))]),Aj 27 8 26,Aa 28 27,A6 29 28 3 1,
 og 30 28 true (.load true 5 (tm 29)),Bc 31 28 50 30,o1 32 (.pick (tm 28) (tm 31) (.av (.bool false))),Aa 2 32]
def wI:aK:=⟨33,(asI IT [] (.seq (asI IS CJ (asL 0 (asI IR [] (.seq (asM 9 0) (.seq (.block 1 (asI IQ C6 (asI IP CB (asK 20 (.sreg IN []))))) (.sreg IM C4)))))) (asI IL CK .ret))),[(.tmp 2)]⟩
attribute [push_cast] IT IS IR IQ IP IN IM IL
theorem Xa:asN 20=asO wI:=asR
def Jc:LSO:=[Af 4]
def Jb:LSO:=[Aa 6 0,Ah 7 6,Aa 8 1,Ah 9 8,Be 10 7 9]
def Ja:LSO:=[Af 4]
def I9:LSO:=[Aa 11 0,Ah 12 11,Ac 13 0]
def I8:LSO:=[Al 14 13 12]
def I7:LSO:=[Aa 15 13,Aa 5 15]
def I6:LSO:=[Aa 16 0,Aa 17 5,Am 18 2 16 17,Ad 19 0 18,Ab 20 1 19,Aa 21 1,Aa 22 5,Am 23 2 21 22,Ad 24 0 23,Ab 25 1 24,As 26 12 20 25,A7 27 26,Aa 28 27,
 .grp none 28 false
 [Ag 29 28 0,Ag 30 28 5,BC 31 28 2 29 30,A3 32 28 1 31,Ay 33 28 1 32,Ag 34 28 1,Ag 35 28 5,BC 36 28 2 34 35,A3 37 28 1 36,Ay 38 28 1 37,BX 39 28 18 33 38,AZ 40 28 39]
 41 (tm 40)]
def I5:LSO:=[Af 4]
def I4:LSO:=[Ai 42 13 1,Aa 13 42]
def I3:LSO:=[A0 4]
def wK:aK:=⟨43,(asI Jc [] (.seq (asI Jb CA (asK 10 (.sreg Ja []))) (.seq (asI I9 CD (asL 0 (asI I8 [] (.seq (asM 14 0) (.seq (.block 1 (asI I7 C4 (.seq (.sdreg I6 [.pure,.pure,(.read 0 0),.pure,(.read 0 0),.pure,.pure,(.read 0 0),.pure,(.read 0 0),(.read 0 0),.pure,.pure,.pure,.pure,(.read 0 0),.pure,(.read 0 0),.pure,.pure,(.read 0 0),.pure,(.read 0 0)] Da) (asK 41 (.sreg I5 []))))) (.sreg I4 C4)))))) (asI I3 [] .ret)))),[(.tmp 4)]⟩
attribute [push_cast] Jc Jb Ja I9 I8 I7 I6 I5 I4 I3
theorem Xc:asN 22=asO wK:=asR
def oV:LSO:=[Az 2 0,Az 3 1,Af 4]
def oU:LSO:=[Ar 15 3 2,Aj 16 7 15,Aa 14 16,Ao 17 14,Aq 18 14,Cz 5,Ap 5 5 17,Aa 6 18]
def oT:LSO:=[Aa 19 6,A7 20 19,Aa 21 20,og 22 21 false (.load true 12 (tm 3)),AN 23 21 20 22,AZ 24 21 23,C3 25 21 24,Aa 26 25,A3 27 26 10 3,Ay 28 26 1 27,
 Bh 29 26 28 0,C3 30 26 29,Aa 31 30,A3 32 31 11 3,Ay 33 31 1 32,Bh 34 31 33 0,C3 35 31 34]
def oS:LSO:=[AO 36 9,Aa 4 36]
def oR:LSO:=[Ad 38 0 5,Ab 39 1 38,Au 40 39,Ad 41 0 40,Ab 42 1 41,AO 43 15,Ad 44 1 5,Ab 45 1 44,Ar 46 12 3,Ca 47 21 42 43 45 46,Aa 37 47,Ao 48 37,Aq 49 37,
 Ba 50 37,Aa 7 48,Aa 8 49,Aa 9 50]
def oQ:LSO:=[Ar 51 12 3,
 o1 10 (.alloc [(.sl [] 0 (some 0)),(.sl [] 0 (some 0)),(.int .i64 0),(.int .i64 0),(.str []),(.str []),(.sl [] 0 (some 0)),(.sl [] 0 (some 0)),(.sl [] 0 (some 0)),(.bool false),(.int .i64 0),(.int .i64 0)]),
 Ap 12 10 51]
def oP:LSO:=[Ad 52 10 10,Cd 1 52 0,Ad 53 11 10,Cd 1 53 0]
def oO:LSO:=[Ad 55 0 5,Ab 56 1 55,Au 57 56,Ad 58 0 57,Ab 59 1 58,AO 60 15,Ad 61 1 5,Ab 62 1 61,Ar 63 12 10,Ca 64 21 59 60 62 63,Aa 54 64,Ao 65 54,Aq 66 54,
 Ba 67 54,Aa 11 65,Aa 12 66,Aa 13 67]
def oN:LSO:=[Aa 68 7,Ah 69 68,Aa 70 11,Ah 71 70,o1 72 (.bin .gtr (tm 69) (tm 71)),Aa 73 72,.grp none 73 false
 [Ag 74 73 7,Ag 75 73 11,Ag 76 73 7,AM 77 73 76,og 78 73 false (.slV 2 (tm 75) none (some (tm 77)) none),BX 79 73 22 74 78,AZ 80 73 79]
 81 (tm 80),Aa 82 81,.grp none 82 false
 [A3 83 82 10 3,Ay 84 82 1 83,AC 85 82 84 0,Ag 86 82 85,.grp (some (82,false)) 86 true
 [Ae 87 86 7,AE 88 86 87,A6 89 86 10 3,A5 90 86 1 89,BY 91 86 88 90]
 92 (tm 91)]
 93 (tm 92),Aa 94 93,.grp none 94 false
 [A3 95 94 11 3,Ay 96 94 1 95,AC 97 94 96 0,Ag 98 94 97,.grp (some (94,false)) 98 true
 [Ae 99 98 7,AE 100 98 99,og 101 98 true (.bin .quo (tm 100) (iv 100)),A6 102 98 11 3,A5 103 98 1 102,BY 104 98 101 103]
 105 (tm 104)]
 106 (tm 105)]
def oM:LSO:=[Af 4]
def mU:LSO:=[Aa 107 8]
def mT:LSO:=[An 109 107 0,Aa 108 109]
def mS:LSO:=[AO 110 9,Aa 111 110,.grp none 111 true
 [Ae 112 111 7,AE 113 111 112,Ae 114 111 11,AE 115 111 114,B0 116 111 113 115]
 117 (tm 116),Aa 118 117,.grp none 118 true
 [Ae 119 118 12,AP 120 118 119 0]
 121 (tm 120),Aa 4 121]
def mR:LSO:=[An 123 107 4,Aa 122 123]
def mQ:LSO:=[AO 124 9,Aa 125 124,.grp none 125 true
 [Ae 126 125 7,AE 127 125 126,A6 128 125 10 3,A5 129 125 1 128,B0 130 125 127 129]
 131 (tm 130),Aa 132 131,.grp none 132 true
 [Ae 133 132 11,AE 134 132 133,A6 135 132 10 3,A5 136 132 1 135,BY 137 132 134 136]
 138 (tm 137),Aa 4 138]
def mP:LSO:=[An 140 107 3,Aa 139 140]
def mO:LSO:=[AO 141 9,Aa 142 141,.grp none 142 true
 [A6 143 142 11 3,A5 144 142 1 143,BD 145 142 144 0]
 146 (tm 145),Aa 4 146]
def mN:LSO:=[AO 147 9,Aa 148 147,.grp none 148 true
 [Ae 149 148 8,Ae 150 148 12,B0 151 148 149 150]
 152 (tm 151),Aa 153 152,.grp none 153 true
 [Ae 154 153 11,AE 155 153 154,AP 156 153 155 0]
 157 (tm 156),Aa 4 157]
def jP:aK:=⟨158,(asI oV [] (asI oU CH (.seq (asI oT Df (asK 35 (.sreg oS C4))) (.seq (.sdreg oR [.pure,(.read 0 0),(.read 0 0),.pure,(.read 0 0),(.read 0 0),.pure,(.read 0 0),(.read 0 0),(.read 0 0),.pure,.pure,.pure,.pure,.pure,.pure] Dt) (asI oQ C4 (asI oP CY (.seq (.sdreg oO [.pure,(.read 0 0),(.read 0 0),.pure,(.read 0 0),(.read 0 0),.pure,(.read 0 0),(.read 0 0),(.read 0 0),.pure,.pure,.pure,.pure,.pure,.pure] Dt) (.seq (asI oN CU (asK 106 (.sreg oM []))) (.seq (asI mU [] (.block 0 (asI mT C4 (asJ 108 (asI mS CB .ret) (asI mR C4 (asJ 122 (asI mQ CB .ret) (asI mP C4 (asK 139 (.sreg mO C7))))))))) (asI mN CB .ret)))))))))),[(.tmp 4)]⟩
attribute [push_cast] oV oU oT oS oR oQ oP oO oN oM mU mT mS mR mQ mP mO mN
theorem J6:asN 5=asO jP:=asR
attribute [push_cast] wI wK jP
variable {α:Type}
theorem TC{f:α->Option Fnd}:∀(l:List α) (n:Nat) (out:List Fnd),srL f 0 0 n out l=(out++l.filterMap f,0)
 |[],n,out=>by simp[srL]
 | x::l,n,out=>by
   rw[srL,if_neg asP];cases hf:f x with
   |none=>simp only;rw[TC l];simp[hf]
   |some y=>simp only;rw[if_neg asP,TC l];simp[hf]
theorem acj{f:α->Option Fnd}{time size:Int}(a:0<=time)(b:0<=size):∀(l:List α) (n:Nat) (out:List Fnd),(0<size->(out.length:Int)<=size)->(0<time->(out.length:Int)<=100*time)->out.length<=n ->
  ∃more,out++l.filterMap f=(srL f time size n out l).1++more/\(0<size->((srL f time size n out l).1.length:Int)<=size)/\(0<time->((srL f time size n out l).1.length:Int)<=100*time) /\
   ((srL f time size n out l).2=0/\more=[]\/(srL f time size n out l).2=4/\0<size/\((srL f time size n out l).1.length:Int)=size/\more≠[]\/(srL f time size n out l).2=3/\0<time)
 |[],n,out,h1,h2,h3=>⟨[],by simp[srL],by simpa[srL]using h1,by simpa[srL]using h2,.inl ⟨rfl,rfl⟩⟩
 | x::l,n,out,h1,h2,h3=>by
   rw[srL];by_cases c:0<time/\time<=((n/100:Nat):Int)
   .simp_all
   .rw[if_neg c];cases hf:f x with
    | none =>
      obtain⟨m,e,r⟩:=acj (f:=f) a b l (n+1) out h1 h2 asP;simp_all
    | some y =>
      simp only;by_cases d:0<size/\(out.length:Int)=size
      .simp_all
      .rw[if_neg d];obtain⟨m,e,r⟩:=acj (f:=f) a b l (n+1) (out++[y]) (λq=>by have:=h1 q;simp only[apB,apC,ap9];omega) (λq=>by simp only[apB,apC,ap9];omega) (by simp;omega);simp_all
theorem al8{Q:List Atr->Prop}{suf:List Rdn}{last:Int}{dn tn:List Rdn}{v:List Atr}(d:∀x∈l,Q x.av)(f:Q v):∀x∈(doT suf l last k dn tn v).1,Q x.av:=by
 have c:∀(l:List aC) (i:Int),(∀x∈l,Q x.av)->∀x∈rD l i v,Q x.av:=λl i h x a=>by
  obtain⟨y,e,rfl⟩:=apz.1 a
  grind
 have b:∀x∈nu l dn tn,Q x.av:=λx a=>by
  obtain⟨y,e,rfl⟩:=apz.1 a
  grind
 unfold doT;split;omega;split;intro x a;rcases apy.1 a with a|a;simp[*];simp_all;split;intro x a;exact d x (ap8.1 a).1
 grind
theorem agM{S:List Rdn}:∀(us:List Upd) (s:List aC×Int),(∀x∈s.1,InA aX x.av)->∀x∈(us.foldl (aeD S) s).1,InA aX x.av
 |[],s,h=>h
 | u::us,s,h=>agM us (aeD S s u) (by
   unfold aeD;split
   .omega
   .rename_i hz;exact al8 h (agD (ann aX) (by simpa using hz)))
theorem amg{S:List Rdn}{us:List Upd}{last:Int}(h:(l,last)=Fs S us):∀x∈l,InA aX x.av:=by have a:=agM (S:=S) us ([],0) asQ;rw[show us.foldl (aeD S) ([],0)=Fs S us from rfl,<- h]at a;omega
theorem alq{Q:List UInt8->Bool}{l:List Atr}(h:InA ts l):InA ts (iS Q l):=⟨List.Pairwise.filter _ h.1,λa b=>h.2 a (ap8.1 b).1⟩
structure FOk(y:Fnd):Prop where
 nm:dnB y.1
 al:y.2.length<=1100000
 vl:∀a∈y.2,a.2.length<=1100000
variable {α:Type}
theorem ack{f:α->Option Fnd}{time size:Int}{y:Fnd}:∀(l:List α) (n:Nat) (out:List Fnd),y∈(srL f time size n out l).1->y∈out\/∃x∈l,f x=some y
 |[],n,out,h=>.inl h
 | x::l,n,out,h=>by
   rw[srL]at h;split at h
   .simp[*]
   .cases hf:f x with
    | none =>
      rw[hf]at h;rcases ack l _ _ h with h|⟨z,a,e⟩
      .simp[*]
      grind
    | some w =>
      rw[hf]at h;simp only at h;split at h
      .simp[*]
      .rcases ack l _ _ h with h|⟨z,a,e⟩
       .grind
       grind
theorem al4{x:aC}{y:Fnd}(f:OkD x.nm)(d:aaH x.av)(h:WN ts P T names tonly x=some y):FOk y:=by unfold WN at h;split at h;cases h;refine⟨f.m.b,?_,λa c=>?_⟩;unfold ki;rw[apQ];exact apR (aqL _ _) (apR (aqL _ _) d.1);obtain⟨b,e,rfl⟩:=apz.1 c;split;simp;exact d.2 b (ap8.1 (ap8.1 e).1).1;cases h
theorem ald(d:∀x∈l,OkD x.nm)(c:∀x∈l,aaH x.av):∀y∈(tR ts l P T base scope names tonly size time).1,FOk y:=by intro y a;rw[Kc]at a;split at a;simp_all;split at a;simp_all;split at a;simp_all;rcases ack _ _ _ a with h|⟨x,b,e⟩;cases h;exact al4 (d x (acm b)) (c x (acm b)) e
theorem aiL        :(tR ts l P T base scope names tonly 0 0).1.length<=l.length:=by rw[Kc];split;simp;split;simp;split;simp;simp only[TC];exact apR (List.length_filterMap_le _ _) agp
theorem aiK(d:0<=size)(i:0<=time){a g:List Fnd×Int×List Rdn}(c:tR ts l P T base scope names tonly size time=a)(b:tR ts l P T base scope names tonly 0 0=g):
  ∃more,g.1=a.1++more/\(0<size->(a.1.length:Int)<=size)/\(0<time->(a.1.length:Int)<=100*time) /\
   (a.2.1=0/\more=[]/\g.2.1=0\/a.2.1=4/\(a.1.length:Int)=size/\more≠[]\/a.2.1=3/\0<time\/(a.2.1≠0/\a.2.1≠4/\a.2.1≠3)/\a.2.1=g.2.1/\g.1=[]):=by
 rw[Kc]at c b;by_cases c0:scope<0\/2<scope;rw[if_pos asP]at c b;subst c b;exact⟨[],rfl,λ_=>by simpa using d,λ_=>by simp;omega,.inr (.inr (.inr ⟨by decide,rfl,rfl⟩))⟩;rw[if_neg asP]at c b;by_cases h:¬OkD base;rw[if_pos h]at c b;subst c b;exact⟨[],rfl,λ_=>by simpa using d,λ_=>by simp;omega,.inr (.inr (.inr ⟨by decide,rfl,rfl⟩))⟩;rw[if_neg h]at c b;by_cases c2:(J7 (P · [] 1) l base).1=0;rw[if_pos c2]at c b;subst c b;exact⟨[],rfl,λ_=>by simpa using d,λ_=>by simp;omega,.inr (.inr (.inr ⟨asQ,rfl,rfl⟩))⟩;rw[TC]at b;obtain⟨m,e,k,j,r⟩:=acj (f:=WN ts P T names tonly) i d (scE l (J7 (P · [] 1) l base).1 scope) 0 [] (λ_=>by simpa using d) (λ_=>by simp;omega) (apt _)
 grind
variable {L:List Blk}{K:apr}
set_option maxHeartbeats 8000000
set_option maxRecDepth 100000
theorem akf{l:List Fnd}{k:Nat}(h:k<l.length):(iF l).getD (k*2) .undef=.sl ((l.getD k ([],[])).1.map aq) (l.getD k ([],[])).1.length none/\(iF l).getD (k*2+1) .undef=.sl (aJ (l.getD k ([],[])).2) (l.getD k ([],[])).2.length none:=by
 induction l generalizing k with
 |nil=>cases h
 | cons a l ih =>
   rw[EV];cases k with
   |zero=>exact⟨rfl,rfl⟩
   | succ k =>
     have:=ih (k:=k) (by simpa using h);rw[show(k+1)*2=k*2+1+1 by omega];simpa using this
theorem amu{l:List Fnd}{r c2:Option Nat}(z:l.length<=1100000)(p:∀y∈l,FOk y)(h:K (.bool true) L):
  apq 22 [.sl (iF l) l.length r,.sl (iF l) l.length c2] L K:=by
 have d:=hid (λk (q:k<l.length)=>akf q);have c:Hid ((iF l).length=l.length*2):=hid (WM l);obtain⟨g,b⟩:=apl (iF l);rw[b]at d c⊢;replace h:=hid h;replace p:=hid p;clear b;refine apo Xc ?_;refine aj (λm T' L'=>∃k:Nat,m=l.length-k/\k<=l.length/\T'=[(13,.int .i64 (k:Int)),(12,.int .i64 l.length),(0,.sl g l.length r),(1,.sl g l.length c2)]/\L=L') asT ⟨0,rfl,apv _,rfl,rfl⟩ ?_;rintro _ _ _ ⟨k,rfl,v,rfl,rfl⟩;by_cases a:k<l.length;have g1:(k:Int)<(l.length:Int):=asP;have x:=apn k asP;obtain⟨s,t⟩:=d.o k a;have j:=c.o;have u:k*2<g.length:=asP;have w:k*2+1<g.length:=asP;obtain⟨y,n⟩:=apl (l.getD k ([],[]));have e:FOk y:=p.o y (by rw[<- n];simp[a]);rw[n]at s t;obtain⟨i,f⟩:=y;have kk1:Hid (Ctr Tryz.prog 12 [.sl (i.map aq) i.length none,.sl (i.map aq) i.length none] (.bool true)):=@hid _ (λ{L K} q=>alt e.nm.1 e.nm.2 q);have kk2:Hid (Ctr Tryz.prog 18 [.sl (aJ f) f.length none,.sl (aJ f) f.length none] (.bool true)):=@hid _ (λ{L K} q=>ane e.al e.vl q);clear n e j;simp only at s t;refine wk ?_;exact asU asP asS ⟨k+1,rfl,a,rfl,rfl⟩;have g1:¬(k:Int)<(l.length:Int):=asP;refine wk ?_;exact aa h.o
theorem ahe{who:List Rdn}{x cb:Option Nat}{f:Flt}{v:Option Nat}(y:OZ who)(j:OZ base)(A:ain f)(t:(names.length:Int)<=9223372036854775807){L:List Blk}{K:apr}(h:∀b:Bool,(b=true->names.length<=20/\smU ⟨0,who,base,[]⟩=true/\abh f)->K (.bool b) L):
  apq 20 [.agg (.sl (who.map aq) who.length x :: .sl (base.map aq) base.length cb :: .int .i64 scope::(fA f++[.sl (names.map AV.str) names.length v,.bool tonly,.int .i64 size,.int .i64 time]))] L K:=by
 obtain⟨sm,d⟩:=apl (smU ⟨0,who,base,[]⟩);have a:∀{L:List Blk}{c0 r c2:Option Nat}{K:apr},K (.bool sm) L->apq 8 [.agg [.int .i64 0,.sl (who.map aq) who.length c0,.sl (base.map aq) base.length r,.sl [] 0 c2]] L K:=λ{L c0 r c2 K} q=>by
  refine iL ?_;have:=Zd (u:=⟨0,who,base,[]⟩) y j asQ asQ (by rw[d];exact q);have e:AV.frzL [.agg [.int .i64 0,.sl (who.map aq) who.length c0,.sl (base.map aq) base.length r,.sl [] 0 c2]]=[AV.agg (rA ⟨0,who,base,[]⟩)]:=by simp only[AV.frzL,AV.frz,bB,rA,dnA];rfl
  rw[e];exact this
 have kk1:Hid (∀{L:List Blk}{c0 r c2:Option Nat}{K:apr},K (.bool sm) L->apq 8 [.agg [.int .i64 0,.sl (who.map aq) who.length c0,.sl (base.map aq) base.length r,.sl [] 0 c2]] L K):=@hid _ a;have i:Hid (∀{L:List Blk}{K:apr},(∀b:Bool,(b=true->abh f)->K (.bool b) L)->apq 50 [.agg (fA f)] L K):=@hid _ (λ{L K} q=>aif A q);obtain⟨B,C,D,w,p⟩:=f;rw[Wc]at i⊢;simp only[aqa,apZ];replace h:=hid h;replace d:=hid d;clear a y j A;refine apo Xa ?_;refine aj (λm T' L'=>∃k:Nat,m=names.length-k/\k<=names.length/\Hid (0<k->names.length<=20)/\T'=[(8,.int .i64 (k:Int)),(7,.int .i64 names.length),(6,.sl (names.map AV.str) names.length v),(1,.ptr L.length 0)]/\L'=L++[.cells [.sl (who.map aq) who.length x,.sl (base.map aq) base.length cb,.int .i64 scope,.int .i64 B,.str C,.str D,.sl (rB w) w.length none,.sl (fsA p) p.length none,.sl (names.map AV.str) names.length v,.bool tonly,.int .i64 size,.int .i64 time]]) asT ⟨0,rfl,apv _,hid (λq=>absurd q (by decide)),rfl,rfl⟩ ?_;rintro _ _ _ ⟨k,rfl,G,s,rfl,rfl⟩;by_cases g:k<names.length;have g1:(k:Int)<(names.length:Int):=asP;have F:=apn k asP;obtain⟨n,t⟩:=apl (names.getD k []);have g3:(names.map AV.str).getD k .undef=.str n:=by rw[<- t];simp[g]
 have g4:k<(names.map AV.str).length:=by simpa using g
 clear t s;by_cases z:20<names.length\/100<n.length;have E:decide ((20:Int)<(names.length:Int)\/(100:Int)<(n.length:Int))=true:=decide_eq_true asP;have l:=hid (h.o false λe=>by cases e);clear z h;refine wk ?_;exact ac rfl l.o;have E:decide ((20:Int)<(names.length:Int)\/(100:Int)<(n.length:Int))=false:=decide_eq_false asP;have c:Hid (0<k+1->names.length<=20):=hid (λ_=>asP);clear z;refine wk ?_;exact asU asP asS ⟨k+1,rfl,g,c,rfl,rfl⟩;have g1:¬(k:Int)<(names.length:Int):=asP;have c:names.length<=20:=by have:=s.o;omega
 clear s;cases sm with
 | false =>
   have l:=hid (h.o false λe=>by cases e);clear h;refine wk ?_;exact ac rfl l.o
 | true =>
   refine wk ?_;refine i.o (λb j=>?_);have l:=hid (h.o b λe=>⟨c,d.o,j e⟩);clear j h;refine asX ?_;exact ac rfl l.o
theorem akj(f:Flt):∃(k:Int) (a v:List UInt8) (P:List AV) (p:Nat) (Q:List AV) (q:Nat),fA f=[.int .i64 k,.str a,.str v,.sl P p none,.sl Q q none]:=by
 cases f with
 |mk k a v ps ks=>exact⟨k,a,v,_,_,_,_,Wc ..⟩
theorem ajI(hA:Hid (Ctr Tryz.prog 9 [] (.bool true)))(hcl:Hid (∀{vs:List (List UInt8)}{c:Option Nat},vs.length<=1100000->∀{L:List Blk}{K:apr},K (.sl (vs.map AV.str) vs.length none) L->apq 47 [.sl (vs.map AV.str) vs.length c] L K)){us:List Upd}{cu:Option Nat}{adm:List Rdn}{ca:Option Nat}{rs:List Rul}{cr:Option Nat}(hu:∀u∈us,afZ u)(hun:(us.length:Int)<=9223372036854775807)(hrn:(rs.length:Int)<=9223372036854775807)(hat:∀r∈rs,bS r.at_)(ha:OZ adm/\∀r∈adm,∀a∈r,(a.1.length:Int)<=140737488351232){who:List Rdn}{cw cB:Option Nat}{f:Flt}{cn:Option Nat}(hw:OZ who/\∀r∈who,∀a∈r,(a.1.length:Int)<=140737488351232)(hd:OZ base/\∀r∈base,∀a∈r,(a.1.length:Int)<=140737488351232)(hf:ain f)(hn:(names.length:Int)<=9223372036854775807)(hnz:∀n∈names,bS n)(hof:∀{l:List Atr},abh f->InA aX l->l.length<=1100000->(∀a∈l,a.2.length<=1100000)->∀{L:List Blk}{K:apr},K (.int .i64 (ofM aX l f)) L->apq 27 [.agg [.sl (cV aX) aX.length none,.sl abY 9 none],.agg (fA f),.sl (aJ l) l.length none] L K){L:List Blk}{K:apr}(h:∀L',K (.bool true) L'):
  apq 5 [.agg [.sl (us.flatMap rA) us.length cu,.sl (adm.map aq) adm.length ca,.sl (ii rs) rs.length cr],.agg (.sl (who.map aq) who.length cw :: .sl (base.map aq) base.length cB :: .int .i64 scope::(fA f++[.sl (names.map AV.str) names.length cn,.bool tonly,.int .i64 size,.int .i64 time]))] L K:=by
 have hsmall:Hid (∀{L:List Blk}{K:apr},(∀b:Bool,(b=true->names.length<=20/\smU ⟨0,who,base,[]⟩=true/\abh f)->K (.bool b) L)->apq 20 [.agg (.sl (who.map aq) who.length cw :: .sl (base.map aq) base.length cB :: .int .i64 scope::(fA f++[.sl (names.map AV.str) names.length cn,.bool tonly,.int .i64 size,.int .i64 time]))] L K):=@hid _ (λ{L K} q=>ahe hw.1 hd.1 hf hn q);have hbuild:Hid (∀{L:List Blk}{K:apr},(∀L',K (.tup [.agg [.nilptr,.nilptr,.nilptr,.sl [] 0 (some 0),.sl [] 0 (some 0)],.bool false]) L')->(∀L' it iv mn mi rt nb bn ck ci trs c last l ib cb,aeQ L' it iv mn mi rt nb bn ck ci trs c eJ last l->L'[ib]?=some (.cells [dnA adm,.sl (kr rs) rs.length cb])->dnM adm->(∀r∈rs,bkE aX r=0)->rs.length<=20->(l,last)=Fs eJ us->nj L L'->K (.tup [.agg [.ptr it 0,.ptr ib 0,.ptr rt 0,.sl (adm.map aq) adm.length ca,.sl (ii rs) rs.length cr],.bool true]) L')->apq 7 [.agg [.sl (us.flatMap rA) us.length cu,.sl (adm.map aq) adm.length ca,.sl (ii rs) rs.length cr]] L K):=@hid _ (λ{L K} q0 q1=>agL hu hun hrn hat ha (λ_=>q0) (λL' it iv mn mi rt nb bn ck ci trs c last l ib cb a1 a2 a3 a4 a5 a6 _ a8=>q1 L' it iv mn mi rt nb bn ck ci trs c last l ib cb a1 a2 a3 a4 a5 a6 a8));obtain⟨US,hUS⟩:=apl (us.flatMap rA);obtain⟨fk,fa,fv,fP,fp,fQ,fq,hfA⟩:=akj f;rw[hUS]at hbuild⊢;rw[hfA]at hof hsmall⊢;simp only[aqa,apZ]at hsmall⊢;obtain⟨TS,hTS⟩:=apl (cV aX);obtain⟨tl,htl⟩:=apl (aX.length);obtain⟨CS,hCS⟩:=apl (abY);have kk2:Hid (Ctr Tryz.prog 15 [] (.agg [.sl TS tl none,.sl CS 9 none])):=@hid _ (λ{L K} q=>afT (by rw[hTS,hCS,htl];exact q));have kk1:=@hA;replace hof:=@hid _ @hof;replace h:=hid h;replace hat:=hid hat;replace hw:=hid hw;replace hd:=hid hd;replace hTS:=hid hTS;replace htl:=hid htl;replace hCS:=hid hCS;replace hnz:=hid hnz;clear hA hu hUS ha hfA hf hn;refine apo J6 ?_;refine hbuild.o (λL'=>?_) (λL' it iv mn mi rt nb bn ck ci trs c last l ib cb hm hib hadm hrl hrn2 hbl hkp=>?_);refine asX ?_;exact aa (h.o _);have hln:=hm.len;refine sk ?_;have hask:∀{X:List Blk},(L'++X)[L.length+1]?=some (.cells [.sl (who.map aq) who.length cw,.sl (base.map aq) base.length cB,.int .i64 scope,.int .i64 fk,.str fa,.str fv,.sl fP fp none,.sl fQ fq none,.sl (names.map AV.str) names.length cn,.bool tonly,.int .i64 size,.int .i64 time]):=λ{X}=>by have:=hkp.2 (L.length+1) [.sl (who.map aq) who.length cw,.sl (base.map aq) base.length cB,.int .i64 scope,.int .i64 fk,.str fa,.str fv,.sl fP fp none,.sl fQ fq none,.sl (names.map AV.str) names.length cn,.bool tonly,.int .i64 size,.int .i64 time] asQ rfl;rw[apx (aps.1 this).1];exact this
 replace hm:=hid hm;replace hib:=hid hib;replace hadm:=hid hadm;replace hrl:=hid hrl;replace hbl:=hid hbl;clear hkp hbuild;refine wk ?_;refine hsmall.o (λb hb=>?_);clear hsmall;cases b with
 | false =>
   refine asX ?_;exact aa (h.o _)
 |true =>
 obtain⟨s1,s2,s3⟩:=hb rfl;refine sk ?_;have hit:∀{X:List Blk},(L'++X)[it]?=some (.cells [.ptr iv 0]):=λ{X}=>by have:=hm.o.it;rw[apx (aps.1 this).1];exact this
 repeat' first
  |refine bG ?_
  | (first|refine bw asR ?_|refine aN asR ?_|refine aQ ?_|refine cS ?_|refine bJ (fun _=>?_)|refine aF ?_|refine bA ?_|refine kk1.o ?_|refine bf (kk1.o ⟨rfl,rfl⟩) (kk1.o ⟨rfl,rfl⟩) ?_|refine aM (kk1.o ⟨rfl,rfl⟩) ?_)
    refine sm ?_
  | (first|refine bq asR ?_|refine bm ?_|refine aP ?_|refine bz ?_|refine bO (aE ?_))
    refine sl ?_
  |exact bK
  |first|apply bL|apply br|apply bM|apply bu|apply bN|apply bv
  |refine aT ?_
  |refine aO ?_
  |first|refine aR rfl ?_|refine aS rfl ?_|refine aB rfl ?_ ?_|refine aW rfl (λ_=>?_) (λ_=>?_)|refine aV rfl (λ_=>?_) (λ_=>?_)
  |((first|refine aA (λ_=>?_) (λ_=>?_)|refine aD (λ_=>?_) (λ_=>?_))<;>try refine sm ?_)
  |refine And.intro trivial ?_
  |refine And.intro asP ?_
  |refine bd rfl (λ_=>?_) (λ_=>?_)
  |refine And.intro ?_ ?_
 all_goals try exact aa (h.o _)
 rename_i n1 n2;have hwm:dnM who:=by simp only[smU,apw]at s2;exact ads s2.1 hw.o.2
 have hdm:dnM base:=by simp only[smU,apw]at s2;exact ads s2.2.1 hd.o.2
 have hq:∀{sz tm:Int}{X:List Blk}{K:apr},K (srA (tR aX l (λe n r=>ajB adm rs who e n r) (λa=>ofM aX a f) base scope names tonly sz tm)) (L'++X)->apq 21 [.ptr iv 0,.agg [.sl TS tl none,.sl CS 9 none],.ptr ib 0,.agg [.sl (who.map aq) who.length cw,.sl (base.map aq) base.length cB,.int .i64 scope,.int .i64 fk,.str fa,.str fv,.sl fP fp none,.sl fQ fq none,.sl (names.map AV.str) names.length cn,.bool tonly,.int .i64 sz,.int .i64 tm],.sl [] 0 (some 0)] (L'++X) K:=λ{sz tm X K} q=>by
  have hm:=hm.o;have hb:=hib.o;have hrok:∀r∈rs,0<=r.who/\r.who<=4/\1<=r.rg/\r.rg<=15:=λr hr=>by have:=anM (hrl.o r hr);exact⟨this.1,this.2.1,this.2.2.2.2.1,this.2.2.2.2.2⟩
  have hin:=amg hbl.o;rw[<- hTS.o,<- htl.o,<- hCS.o];exact adt ⟨rC.1,rC.2.1⟩ hm.ok asP (λx hx=>⟨(hm.av x hx).1,λa ha=>⟨(WI rC (hin x hx) ha).1,(hm.av x hx).2 a ha⟩⟩) hdm.b asP hnz.o hcl (hm.code.app X) (apm hb)
   (@hid _ (λx hx n hn r hr {Y K} q=>amK (by unfold Y5;omega) hrok hat.o hn asP hadm.o.b hwm.b (hm.ok.ok x hx).m.b (by rw[apG,apx (aps.1 hb).1];exact hb) q))
   (@hid _ (λx hx {Y K} q=>hof.o s3 (alq (hin x hx)) (apR (aqL _ _) (hm.av x hx).1) (λa ha=>(hm.av x hx).2 a (ap8.1 ha).1) q)) q
 obtain⟨P,hP⟩:∃P,P=(λ(e:List Rdn) (n:List UInt8) (r:Int)=>ajB adm rs who e n r):=⟨_,rfl⟩;obtain⟨T,hT⟩:∃T,T=(λa:List Atr=>ofM aX a f):=⟨_,rfl⟩;rw[<- hP,<- hT]at hq;obtain⟨R1,hR1⟩:=apl (tR aX l P T base scope names tonly size time);obtain⟨R0,hR0⟩:=apl (tR aX l P T base scope names tonly 0 0);have ok1:=hid (ald (ts:=aX) (P:=P) (T:=T) (base:=base) (scope:=scope) (size:=size) (time:=time) (names:=names) (tonly:=tonly) hm.o.ok.ok hm.o.av);have len0:R0.1.length<=1100000:=by have:=aiL (ts:=aX) (l:=l) (P:=P) (T:=T) (base:=base) (scope:=scope) (names:=names) (tonly:=tonly);rw[hR0]at this;omega
 have lim:=aiK asP asP hR1 hR0;have kk3:=@hid _ (@hq size time);rw[hR1]at kk3;have kk4:=@hid _ (@hq 0 0);rw[hR0]at kk4;rw[hR1]at ok1;obtain⟨l1,e1,d1⟩:=R1;obtain⟨l0,e0,d0⟩:=R0;simp only[srA,dnA]at kk3 kk4 len0 ok1 lim;obtain⟨more,rfl,m1,m2,m3⟩:=lim;have hl0:(l1++more).length=l1.length+more.length:=apB;have m0:more=[]↔more.length=0:=List.length_eq_zero_iff.symm;have lF:e1=0/\(l1.length:Int)=((l1++more).length:Int)/\e0=0\/e1=4/\(l1.length:Int)=size/\size<((l1++more).length:Int)\/e1=3/\0<time\/(e1≠0/\e1≠4/\e1≠3)/\e1=e0/\((l1++more).length:Int)=0:=by rw[hl0];rcases m3 with⟨r1,r2,r3⟩|⟨r1,r2,r3⟩|r|⟨r1,r2,r3⟩;exact .inl ⟨r1,by rw[r2];simp,r3⟩;exact .inr (.inl ⟨r1,r2,by have:=mt m0.2 r3;omega⟩);exact .inr (.inr (.inl r));exact .inr (.inr (.inr ⟨r1,r2,by rw[<- hl0,r3];rfl⟩))
 have a1:decide (((l1++more).length:Int)<(l1.length:Int))=false:=decide_eq_false asP;have a2:decide (0<size/\size<(l1.length:Int))=false:=decide_eq_false (λq=>by have:=m1 q.1;omega);obtain⟨q,hq'⟩:∃q:Int,((l1.length/100:Nat):Int)=q:=⟨_,rfl⟩;have a4:IntKind.i64.wrap ((l1.length:Int).tdiv 100)=q:=by rw[<- hq',asF asP];exact ae asP asP
 have a3:decide (0<time/\time<q)=false:=decide_eq_false (λz=>by have:=m2 z.1;omega);have a5:List.take (l1.length*2) (iF (l1++more))=iF l1:=by rw[abQ,<- WM];exact List.take_left
 have kk5:Hid (Ctr Tryz.prog 22 [.sl (iF l1) l1.length none,.sl (iF l1) l1.length none] (.bool true)):=@hid _ (λ{L K} q=>amu asP ok1.o q);obtain⟨n0,hn0⟩:=apl ((l1++more).length);obtain⟨F0,hF0⟩:=apl (iF (l1++more));have a6:l1.length<=n0:=asP;have a7:F0.length=n0*2:=by rw[<- hF0,<- hn0];exact WM _
 rw[hn0]at kk4 lF a1;rw[hF0]at kk4 a5;clear hq hR1 hR0 hP hT hm hib hadm hrl hbl hwm hdm hat hw hd hnz hof hcl hTS htl hCS s1 s2 s3 hb m0 m1 m2 m3 hl0 hq' hF0 hn0 ok1 n1 n2;rcases lF with⟨rfl,q1,q2⟩|⟨rfl,q1,q2⟩|⟨rfl,q1⟩|⟨⟨r1,r2,r3⟩,q1,q2⟩
 case' inl=>have gF:decide ((l1.length:Int)=(n0:Int)/\e0=0)=true:=decide_eq_true ⟨q1,q2⟩
 case' inr.inl=>have gF:decide ((l1.length:Int)=size/\size<(n0:Int))=true:=decide_eq_true ⟨q1,q2⟩
 case' inr.inr.inl =>
  have gF:decide (0<time)=true:=decide_eq_true q1;have a8:decide (time<q)=false:=decide_eq_false (λz=>absurd a3 (by rw[decide_eq_true ⟨q1,z⟩];decide))
 case' inr.inr.inr =>
  have gF:decide (e1=e0/\(n0:Int)=0)=true:=decide_eq_true ⟨q1,q2⟩;have r1:decide (e1=0)=false:=decide_eq_false r1;have r2:decide (e1=4)=false:=decide_eq_false r2;have r3:decide (e1=3)=false:=decide_eq_false r3
 all_goals
  clear q1
  try clear q2
  refine wk ?_;exact aa (h.o _)
open Go Go.ChangeShapes Go.WideShapes Go.ChangeAt
def RdW(F:Nat)(P:Program)(t:TypeId){X:Type}(ec:X->List AV)(ok:X->Prop):Prop :=
 ∀(H:Type) (enc:TypeId×Value->H) (w:World) (fuel:Nat) (cs:List Value) (x:DataW H×List MemPlace),fuel<F ->
  DataW.trod enc P w 0 (λ_=>true) true fuel t cs=some x->(∀n∈x.1.weights P t,n<=reachBytes)->∃y,ok y/\VRL (nF w) (ec y) cs
theorem RdW.mono{G:Nat}{P:Program}{b:X->List AV}{ok:X->Prop}(h:RdW G P t b ok)(e:F<=G):RdW F P t b ok:=λH enc w a cs x f d c=>h H enc w a cs x asP d c
theorem RdZ.w{P:Program}{b:X->List AV}{ok:X->Prop}(h:RdZ P t b ok)(F:Nat):RdW F P t b ok:=λH enc w a cs x _ d c=>h H enc w a cs x d c
theorem RdW.z{P:Program}{b:X->List AV}{ok:X->Prop}(h:∀F,RdW F P t b ok):RdZ P t b ok:=λH enc w a cs x d c=>h (a+1) H enc w a cs x (Nat.lt_succ_self _) d c
theorem RdW.map{P:Program}{Y:Type}{d:X->List AV}{ok:X->Prop}{a:Y->List AV}{b:Y->Prop}(h:RdW F P t d ok)(m:∀y,ok y->∃z,b z/\a z=d y):RdW F P t a b:=λH enc w c cs x i f j=>by obtain⟨y,g,k⟩:=h H enc w c cs x i f j;obtain⟨z,e,h4⟩:=m y g;exact⟨z,e,by rw[h4];exact k⟩
theorem aht{P:Program}{e:TypeId}{G:X->List AV}{ok:X->Prop}(T:P.underlying t=some (.slice e))(he:RdW F P e G ok)(J:decide (0<P.cellsOf e)=true):
  RdW (F+1) P t (λl:List X=>[.sl (l.flatMap G) l.length none]) (λl=>l.length<=maxLen/\∀y∈l,ok y):=λH enc w R cs x hF hx K=>by
 have hz:0<P.cellsOf e:=of_decide_eq_true J;rcases DataW.trod_slice T hx with⟨rfl,_⟩|⟨a,len,cap,elems,rest,n,ai,rfl,rfl,_,Z,Q,ad,p,c,_⟩;exact⟨[],⟨asQ,asQ⟩,by simp only[VRL,VR];exact⟨_,_,rfl,⟨none,0,rfl,apt _,asQ,.inl ⟨rfl,rfl,rfl⟩⟩,rfl⟩⟩;have f:cap≠0->a.spot=none:=λL=>by
  have g:∀r:Option (DataW H×List MemPlace),r≠none->(w.cells? 0 (a.add (0*P.cellsOf e)) (P.cellsOf e)).bind (DataW.trod enc P w 0 (λ_=>true) true n e)=r->a.spot=none:=λr hr z=>by obtain⟨q,rfl⟩:=Option.ne_none_iff_exists'.1 hr;rw[aq3]at z;obtain⟨h,A,_⟩:=z;obtain⟨h6,N⟩:=EW A;have I:=N 0 hz;obtain⟨v,hv⟩:∃v,h[0]?=some v:=⟨h[0]'asP,apD _⟩;rw[hv]at I;have:=ab8 I;simpa[Addr.add]using this
  by_cases U:len=0;obtain⟨r1,r2⟩:=c rfl;exact g rest[0]? (by rw[apD asP];simp) (by simpa[U]using r2 0 asP)
  exact g elems[0]? (by rw[apD asP];simp) (p 0 asP)
 have C:∀i,i<len->∃y,ok y/\(G y).length=P.cellsOf e/\a.spot=none/\VRC (nF w) (G y) a.block (a.off+i*P.cellsOf e):=λi M=>by
  have z:=p i M;obtain⟨q,W⟩:∃q,elems[i]?=some q:=⟨elems[i]'asP,apD _⟩;rw[W,aq3]at z;obtain⟨h,A,h3⟩:=z;obtain⟨y,h4,Y⟩:=he H enc w n h q asP h3 (λm hm=>K m (by simp only[DataW.weights,T];refine aqU _ (aqH _ (rL (d:=q.1) ?_ m hm));exact apz.2 ⟨q,aqj W,rfl⟩))
  obtain⟨h6,N⟩:=EW A;have U:=Y.length;have c:a.spot=none:=f asP;refine⟨y,h4,asP,c,VRC.of_get λj u V=>?_⟩;obtain⟨v,I,h9⟩:=Y.get V;refine⟨v,?_,h9⟩;have hj:j<P.cellsOf e:=by have:=(aps.1 V).1;omega
  have D:=N j hj;rw[I]at D;rw[<- D];have B:∀k,a.add k=⟨a.block,a.off+k,none⟩:=λk=>by obtain⟨b,o,s⟩:=a;simp only at c;subst c;exact Addr.add_mk b o k
  rw[B,Addr.add_mk];rfl
 obtain⟨O,z,A⟩:=Wz _ len C;refine⟨O,⟨asP,λy E=>?_⟩,?_⟩;obtain⟨i,M⟩:=asm E;exact(A i y M).1;simp only[VRL];refine⟨_,[],rfl,?_,rfl⟩;simp only[VR];refine⟨_,_,by rw[z],asP,asQ,?_⟩;by_cases L:cap=0;have:O=[]:=by have:O.length=0:=asP;simpa using this
 subst this;exact .inl ⟨rfl,L,rfl⟩;refine .inr ⟨a.block,a.off,?_,aaO λi y E=>⟨(A i y E).2.1,(A i y E).2.2.2⟩⟩;have S:a.spot=none:=f L;cases a;simp only at S⊢;rw[S]
def amx(F:Nat)(P:Program)(N o:Nat)(fs:List Field){X:Type}(ec:X->List AV)(ok:X->Prop):Prop :=
 ∀(H:Type) (enc:TypeId×Value->H) (w:World) (n:Nat) (cs:List Value),n<F->cs.length=N ->
  (∀f∈fs,∃x,DataW.trod enc P w 0 (λ_=>true) true n f.type ((cs.drop f.offset).take (P.cellsOf f.type))=some x/\∀m∈x.1.weights P f.type,m<=reachBytes)->∃y,ok y/\VRL (nF w) (ec y) (cs.drop o)
theorem ajf{P:Program}{o:Nat}(h:o=N):amx F P N o [] (λ_:Unit=>[]) (λ_=>True):=λH enc w n cs _ a _ =>
 ⟨(),trivial,by simp[VRL,h,<- a]⟩
theorem wU{P:Program}{o sz:Nat}{f:Field}{i:List Field}{Y:Type}{e:X->List AV}{ok:X->Prop}{a:Y->List AV}{b:Y->Prop}(t:f.offset=o)(s:P.cellsOf f.type=sz)(h:RdW F P f.type e ok)(r:amx F P N (o+sz) i a b):
  amx F P N o (f::i) (λy:X×Y=>e y.1++a y.2) (λy=>ok y.1/\b y.2):=λH enc w n cs d m c=>by
 obtain⟨x,l,k⟩:=c f asQ;obtain⟨y,q,j⟩:=h H enc w n _ x d l k;obtain⟨z,h4,u⟩:=r H enc w n cs d m λg p=>c g (by simp[p])
 refine⟨(y,z),⟨q,h4⟩,?_⟩;have:cs.drop o=(cs.drop f.offset).take (P.cellsOf f.type)++cs.drop (o+sz):=by rw[t,s,<- ash,aq5]
 rw[this];exact j.append u
theorem ae9{P:Program}{h:Array Field}{l:X->List AV}{ok:X->Prop}(p:P.underlying t=some (.struct h))(q:P.cellsOf t=N)(r:amx F P N 0 h.toList l ok):RdW (F+1) P t l ok:=λH enc w o cs x D s k=>by
 subst q;obtain⟨xs,n,z,rfl,v,b,C⟩:=DataW.trod_struct p s;obtain⟨y,u,B⟩:=r H enc w n cs asP v λf c=>by
  obtain⟨i,e⟩:=asm c;have g:h[i]?=some f:=(by simpa using e);rw[C i f g];have a:i<xs.length:=by rw[b];have:=(aps.1 e).1;simpa using this
  refine⟨xs[i],apD a,λm A=>k m ?_⟩;simp only[DataW.weights,p];refine DataW.weights_mem_each (j:=i) (t:=f.type) (d:=xs[i].1) ?_ ?_ m A;rw[aqk,e];rfl;rw[aqk,apD a];rfl
 exact⟨y,u,by simpa using B⟩
open Go Go.ChangeShapes
theorem alH:RdZ Tryz.prog 101 pD (λa=>a.1.length<=reachBytes):=
 (jH Tryz.underlying101 (N:=2) asR (bH (sz:=1) rfl asR (kJ Tryz.underlying9) (bH (sz:=1) rfl asR (kJ Tryz.underlying9) (rS rfl)))).map
  λy b=>⟨(y.1,y.2.1),b.1,rfl⟩
theorem alG:RdZ Tryz.prog 99 (λr:Rdn=>[aq r]) (λr=>r.length<=maxLen/\∀a∈r,a.1.length<=reachBytes):=
 (jV Tryz.underlying99 alH asR).map λl b=>⟨l,b,rfl⟩
theorem Zk:RdZ Tryz.prog 24 (λd:List Rdn=>[dnA d]) (λd=>OZ d/\∀r∈d,∀a∈r,(a.1.length:Int)<=140737488351232):=
 (jV Tryz.underlying24 alG asR).map fun l hl=>⟨l,⟨⟨by have:=hl.1;simp only [maxLen] at this;omega,fun r hr=>by have:=(hl.2 r hr).1;simp only [maxLen] at this;omega⟩,fun r hr a ha=>by have:=(hl.2 r hr).2 a ha;simp only [reachBytes] at this;omega⟩,by
  have e:∀l:List Rdn,l.map aq=l.flatMap λr=>[aq r]:=λl=>by
   induction l with
   |nil=>rfl
   |cons a l ih=>rw[apX,ap5,ih];rfl
  simp only[dnA,e l]⟩
theorem ajd:RdZ Tryz.prog 50 (λl:List (List UInt8)=>[Sy l]) (λl=>l.length<=maxLen):=
 (jV Tryz.underlying50 (kJ Tryz.underlying9) asR).map fun l hl=>⟨l,hl.1,by
  have e:∀l:List (List UInt8),l.map AV.str=l.flatMap λr=>[AV.str r]:=λl=>by
   induction l with
   |nil=>rfl
   |cons a l ih=>rw[apX,ap5,ih];rfl
  simp only[Sy,e l]⟩
theorem alI:RdZ Tryz.prog 86 atA (λa=>a.1.length<=reachBytes/\a.2.length<=maxLen):=
 (jH Tryz.underlying86 (N:=2) asR (bH (sz:=1) rfl asR (kJ Tryz.underlying9) (bH (sz:=1) rfl asR ajd (rS rfl)))).map
  λy b=>⟨(y.1,y.2.1),⟨b.1,b.2.1⟩,rfl⟩
theorem ajc:RdZ Tryz.prog 40 rA afZ :=
 (jH Tryz.underlying40 (N:=4) asR (bH (sz:=1) rfl asR (Rd.z (Ki Tryz.underlying3)) (bH (sz:=1) rfl asR Zk (bH (sz:=1) rfl asR Zk (bH (sz:=1) rfl asR (jV Tryz.underlying38 alI asR) (rS rfl)))))).map
  λy b=>⟨⟨y.1,y.2.1,y.2.2.1,y.2.2.2.1⟩,⟨b.2.1,b.2.2.1,by have:=b.2.2.2.1.1;simp only[maxLen]at this⊢;omega,λa e=>by obtain⟨d,c⟩:=b.2.2.2.1.2 a e;simp only[maxLen]at c;simp only[reachBytes]at d;omega⟩,rfl⟩
theorem ahq:RdZ Tryz.prog 22 (λl:List Upd=>[.sl (l.flatMap rA) l.length none]) (λl=>(l.length:Int)<=9223372036854775807/\∀u∈l,afZ u):=
 (jV Tryz.underlying22 ajc asR).map λl a=>⟨l,⟨by have:=a.1;simp only[maxLen]at this;omega,a.2⟩,rfl⟩
open Go Go.ChangeShapes
theorem alF:RdZ Tryz.prog 103 Yp (λr=>bS r.at_):=
 (jH Tryz.underlying103 (N:=6) asR (bH (sz:=1) rfl asR (Rd.z (Ki Tryz.underlying3)) (bH (sz:=1) rfl asR (kJ Tryz.underlying9) (bH (sz:=1) rfl asR (kJ Tryz.underlying9) (bH (sz:=1) rfl asR (kJ Tryz.underlying9) (bH (sz:=1) rfl asR (Rd.z (Ki Tryz.underlying3)) (bH (sz:=1) rfl asR (Rd.z (agr Tryz.underlying4)) (rS rfl)))))))).map
  λy a=>⟨⟨y.1,y.2.1,y.2.2.1,y.2.2.2.1,y.2.2.2.2.1,y.2.2.2.2.2.1⟩,by have:=a.2.2.2.1;simp only[reachBytes]at this;unfold bS;simp only;omega,rfl⟩
abbrev Wld:=List Upd×List Rdn×List Rul
abbrev ao8(w:Wld):List AV:=[.sl (w.1.flatMap rA) w.1.length none,dnA w.2.1,.sl (ii w.2.2) w.2.2.length none]
structure apj(w:Wld):Prop where
 un:(w.1.length:Int)<=9223372036854775807
 uq:∀u∈w.1,afZ u
 ad:OZ w.2.1/\∀r∈w.2.1,∀a∈r,(a.1.length:Int)<=140737488351232
 rn:(w.2.2.length:Int)<=9223372036854775807
 ra:∀r∈w.2.2,bS r.at_
theorem alE:RdZ Tryz.prog 27 ao8 apj :=
 (jH Tryz.underlying27 (N:=3) asR (bH (sz:=1) rfl asR ahq (bH (sz:=1) rfl asR Zk (bH (sz:=1) rfl asR (jV Tryz.underlying25 alF asR) (rS rfl))))).map
  λy a=>⟨(y.1,y.2.1,y.2.2.1),⟨a.1.1,a.1.2,a.2.1,by have:=a.2.2.1.1;simp only[maxLen]at this;simp only;omega,a.2.2.1.2⟩,rfl⟩
theorem ae8:RdZ Tryz.prog 50 (λl:List (List UInt8)=>[Sy l]) (λl=>(l.length:Int)<=9223372036854775807/\∀v∈l,bS v):=
 (jV Tryz.underlying50 (kJ Tryz.underlying9) asR).map fun l hl=>⟨l,⟨by have:=hl.1;simp only [maxLen] at this;omega,fun v hv=>by have:=hl.2 v hv;simp only [reachBytes] at this;unfold bS;omega⟩,by
  have e:∀l:List (List UInt8),l.map AV.str=l.flatMap λr=>[AV.str r]:=λl=>by
   induction l with
   |nil=>rfl
   |cons a l ih=>rw[apX,ap5,ih];rfl
  simp only[Sy,e l]⟩
open Go Go.ChangeShapes
theorem aje:RdZ Tryz.prog 202 pcA (λp=>(p.2.length:Int)<=140737488351232):=
 (jH Tryz.underlying202 (N:=2) asR (bH (sz:=1) rfl asR (Rd.z (Ki Tryz.underlying3)) (bH (sz:=1) rfl asR (kJ Tryz.underlying9) (rS rfl)))).map
  λy a=>⟨(y.1,y.2.1),by have:=a.2.1;simp only[reachBytes]at this;simp only;omega,rfl⟩
theorem Z0:∀l:List Flt,l.flatMap fA=fsA l
 |[]=>rfl
 |f::r=>by rw[ap5,Z0 r,fsA]
theorem ahr:RdZ Tryz.prog 66 fA ain:=RdW.z λF=>by
 induction F with
 |zero=>exact λH enc w b cs x d=>absurd d (arE _)
 | succ F ih =>
   exact(ae9 Tryz.underlying66 (N:=5) asR (wU (sz:=1) rfl asR (RdZ.w (Rd.z (Ki Tryz.underlying3)) F) (wU (sz:=1) rfl asR (RdZ.w (kJ Tryz.underlying9) F) (wU (sz:=1) rfl asR (RdZ.w (kJ Tryz.underlying9) F)
    (wU (sz:=1) rfl asR (RdZ.w (jV Tryz.underlying63 aje asR) F) (wU (sz:=1) rfl asR ((aht Tryz.underlying64 ih asR).mono (Nat.le_succ F)) (ajf rfl))))))).map
    λy a=>⟨.mk y.1 y.2.1 y.2.2.1 y.2.2.2.1 y.2.2.2.2.1,⟨a.2.1,a.2.2.1,a.2.2.2.1.1,λp c=>by have:=a.2.2.2.1.2 p c;omega,a.2.2.2.2.1.1,ada a.2.2.2.2.1.2⟩,by rw[Wc];simp only[Z0,rB,aqa,apZ,ap4]⟩
structure amV where
 who:List Rdn
 base:List Rdn
 scope:Int
 f:Flt
 names:List (List UInt8)
 tonly:Bool
 size:Int
 time:Int
abbrev anO(a:amV):List AV:=dnA a.who::dnA a.base :: .int .i64 a.scope::(fA a.f++[.sl (a.names.map AV.str) a.names.length none,.bool a.tonly,.int .i64 a.size,.int .i64 a.time])
structure apk(a:amV):Prop where
 who:OZ a.who/\∀r∈a.who,∀v∈r,(v.1.length:Int)<=140737488351232
 base:OZ a.base/\∀r∈a.base,∀v∈r,(v.1.length:Int)<=140737488351232
 f:ain a.f
 nl:(a.names.length:Int)<=9223372036854775807
 nz:∀n∈a.names,bS n
theorem ahs:RdZ Tryz.prog 68 anO apk :=
 (jH Tryz.underlying68 (N:=12) asR (bH (sz:=1) rfl asR Zk (bH (sz:=1) rfl asR Zk (bH (sz:=1) rfl asR (Rd.z (Ki Tryz.underlying3)) (bH (sz:=5) rfl asR ahr (bH (sz:=1) rfl asR ae8 (bH (sz:=1) rfl asR (Rd.z (agr Tryz.underlying4)) (bH (sz:=1) rfl asR (Rd.z (Ki Tryz.underlying3)) (bH (sz:=1) rfl asR (Rd.z (Ki Tryz.underlying3)) (rS rfl)))))))))).map
  λy a=>⟨⟨y.1,y.2.1,y.2.2.1,y.2.2.2.1,y.2.2.2.2.1,y.2.2.2.2.2.1,y.2.2.2.2.2.2.1,y.2.2.2.2.2.2.2.1⟩,⟨a.1,a.2.1,a.2.2.2.1,a.2.2.2.2.1.1,a.2.2.2.2.1.2⟩,by simp only[Sy,aqa,apZ,ap4]⟩
theorem adN{b:List UInt8}(h:K (.tup [.int .i64 ((ti syn a b).getD 0),.bool (ti syn a b).isSome]) L):apq 75 [.int .i64 syn,.str a,.str b] L K:=by refine adM ?_;revert h;rcases ti syn a b with _|c<;>exact λh=>h
theorem alO(h:K (.tup [.str ((dm syn v).getD []),.bool (dm syn v).isSome]) L):apq 68 [.int .i64 syn,.str v] L K:=by refine iT ?_;revert h;rcases dm syn v with _|c<;>exact λh=>h
theorem alS{l:List Pc}{cap:Option Nat}(b:l.length<=1000)(a:∀p∈l,(p.2.length:Int)<=140737488351232)(h:K (.tup [.bool ((N6 syn v l).getD false),.bool (N6 syn v l).isSome]) L):
  apq 74 [.int .i64 syn,.str v,.sl (rB l) l.length cap] L K:=by
 refine afp asP a ?_;revert h;rcases N6 syn v l with _|c<;>exact λh=>h
theorem am5{b:Bool}(h:K (.int .i64 (tf1 b)) L):apq 69 [.bool b] L K:=by
 cases b with
 | false =>
   replace h:Hid (K (.int .i64 0) L):=hid h;refine apo Od ?_;exact aa h.o
 | true =>
   replace h:Hid (K (.int .i64 1) L):=hid h;refine apo Od ?_;exact aa h.o
theorem aoo{ty:Typ}{x:List UInt8}{ps:List Pc}{cp:Option Nat}{ks:AV}{d e:Nat}{L:List Blk}(j:L[d]?=some (.cells (tyC ty)))(l:L[e]?=some (.cells [.int .i64 k,.str a,.str v,.sl (rB ps) ps.length cp,ks]))(i:ps.length<=1000)(g:∀p∈ps,(p.2.length:Int)<=140737488351232){K:apr}(h:K (.bool ((N6 ty.2.1 x ps).getD false)) L):apq 73 [.str x,.ptr d 0,.ptr e 0] L K:=by
 obtain⟨r,c⟩:=apl ((N6 ty.2.1 x ps).getD false);obtain⟨b,f⟩:=apl ((N6 ty.2.1 x ps).isSome);have kk1:Hid (Ctr Tryz.prog 74 [.int .i64 ty.2.1,.str x,.sl (rB ps) ps.length cp] (.tup [.bool r,.bool b])):=hid λq=>alS i g (by rw[c,f];exact q)
 rw[c]at h;replace h:=hid h;simp only[tyC]at j;clear c f g;refine apo Yt ?_;exact aa h.o
theorem amI{ty:Typ}{x:List UInt8}{ps ks:AV}{d e:Nat}{L:List Blk}(l:L[d]?=some (.cells (tyC ty)))(m:L[e]?=some (.cells [.int .i64 k,.str a,.str v,ps,ks])){K:apr}(h:K (.bool (decide ((ti ty.2.1 x v).getD 0=0) ||(decide (0<(ti ty.2.1 x v).getD 0) == decide (k=5)))) L):apq 76 [.str x,.ptr d 0,.ptr e 0] L K:=by
 obtain⟨r,c⟩:=apl ((ti ty.2.1 x v).getD 0);obtain⟨b,f⟩:=apl ((ti ty.2.1 x v).isSome);have kk1:Hid (Ctr Tryz.prog 75 [.int .i64 ty.2.1,.str x,.str v] (.tup [.int .i64 r,.bool b])):=hid λq=>adN (by rw[c,f];exact q)
 rw[c]at h;replace h:=hid h;simp only[tyC]at l;clear c f;refine apo Ys ?_;refine aa (Kto h.o (congrArg AV.bool ?_));by_cases g:r=0<;>by_cases j:0<r<;>by_cases i:k=5<;>simp[g,j,i]
theorem apb{j:Option Nat}{c2:List AV}{n2:Nat}{r:Option Nat}{l:List Atr}{cap:Option Nat}(G:akF ts)(U:InA ts l)(hl:l.length<=1100000)(hz:∀a∈l,a.2.length<=1100000):∀(f:Flt),abh f->∀{L:List Blk}{K:apr},K (.int .i64 (ofM ts l f)) L ->
  apq 27 [.agg [.sl (cV ts) ts.length j,.sl c2 n2 r],.agg (fA f),.sl (aJ l) l.length cap] L K:=by
 refine acP λk a v ps ks ih ad L K h=>?_
 simp only[FlB]at ad;obtain⟨r1,r2,r3,r4,r5,r6⟩:=ad;have I:∀x∈ks,∀{L:List Blk}{K:apr},K (.int .i64 (ofM ts l x)) L->apq 27 [.agg [.sl (cV ts) ts.length j,.sl c2 n2 r],.agg (fA x),.sl (aJ l) l.length cap] L K:=λx hx {L K} q=>ih x hx (aaS r6 x hx) q
 replace I:=@hid _ @I;clear ih r6;rw[ofM,adP]at h;rw[Wc];obtain⟨PS,w⟩:∃P,P=rB ps:=⟨_,rfl⟩;obtain⟨z,E⟩:∃P,P=fsA ks:=⟨_,rfl⟩;rw[<- w,<- E];replace w:=hid w;replace E:=hid E;by_cases S:k=0\/k=1\/k=2;rw[if_pos S]at h;obtain⟨V,hV⟩:∃V,V=ks.map (ofM ts l):=⟨_,rfl⟩;rw[<- hV]at h;replace hV:=hid hV;replace h:=hid h;have c:V.length=ks.length:=by rw[hV.o];simp
 have e2:∀A B:Blk,(L++[A,B]).length=L.length+2:=λA B=>asQ
 have t:∀i:Nat,i<ks.length->∃q:Flt,Hid ((z.drop (i*5)).take 5=fA q/\i*5+5<=z.length/\(∀{L:List Blk}{K:apr},K (.int .i64 (ofM ts l q)) L->apq 27 [.agg [.sl (cV ts) ts.length j,.sl c2 n2 r],.agg (fA q),.sl (aJ l) l.length cap] L K)/\(i:Int)<(ks.length:Int)/\IntKind.i64.wrap ((i:Int)+1)=(i:Int)+1/\(V.take (i+1)).map (AV.int .i64)=(V.take i).map (AV.int .i64)++[.int .i64 (ofM ts l q)]):=λi g=>by
  refine⟨ks.getD i agA,hid ⟨?_,?_,?_,asP,ae asP asP,?_⟩⟩;rw[E.o];exact afN g;rw[E.o,acN];omega;exact λq=>I.o _ (by simp[g]) q
  rw[apK asP,ap1];congr 1;simp[hV.o,g]
 refine ab wm (by simp[jL]) ?_;simp only[jL,ag];rcases S with rfl|rfl|rfl;refine wk ?_;refine bR (l:=[]) (n:=0) 7 1 rfl (apU 1).symm ?_;rw[e2];refine aj (λm T' L'=>∃(i:Nat) (C:List AV) (Y:List Blk),m=ks.length-i/\i<=ks.length/\Hid (C=(V.take i).map (AV.int .i64))/\T'=[(26,.int .i64 (i:Int)),(25,.int .i64 ks.length),(24,.sl z ks.length none),(7,.gsl C i (L.length+2) 1),(4,.ptr (L.length+1) 0),(3,.ptr L.length 0),(2,.sl (aJ l) l.length cap)]/\L'=L++(.cells [.sl (cV ts) ts.length j,.sl c2 n2 r] :: .cells [.int .i64 0,.str a,.str v,.sl PS ps.length none,.sl z ks.length none] :: .spare i 1::Y)) asT ⟨0,[],[],rfl,apv _,hid rfl,rfl,asQ⟩ ?_;rintro _ _ _ ⟨i,C,Y,rfl,hi,y,rfl,rfl⟩;by_cases g:i<ks.length;obtain⟨q,J⟩:=t i g;obtain⟨e3,e4,M,g1,g2,N⟩:=J.o;have kk1:=@hid _ @M;clear M J;have d:=hid (show C++[.int .i64 (ofM ts l q)]=(V.take (i+1)).map (AV.int .i64)by rw[y.o,N]);clear N;simp only[abT]at e3 kk1;refine wk ?_;exact asU asP asT ⟨i+1,_,_,rfl,g,d,rfl,rfl⟩;have D:i=ks.length:=asP;subst D;have g1:¬(ks.length:Int)<(ks.length:Int):=asP;have d:=y.o;rw[<- c,apJ]at d;subst d;clear y t;replace c:=hid c;have kk1:Hid (∀{i:Nat}{L:List Blk}{K:apr},K (.int .i64 (ac4 V)) L->apq 64 [.gsl (V.map (AV.int .i64)) ks.length i 1] L K):=hid λq=>by rw[<- c.o];exact Xm (by have:=c.o;omega) q
 have X:=hid (show K (.int .i64 (ac4 V)) L by have:=h.o;simpa[ad6]using this);refine wk ?_;exact ac rfl X.o;refine wk ?_;refine bR (l:=[]) (n:=0) 7 1 rfl (apU 1).symm ?_;rw[e2];refine aj (λm T' L'=>∃(i:Nat) (C:List AV) (Y:List Blk),m=ks.length-i/\i<=ks.length/\Hid (C=(V.take i).map (AV.int .i64))/\T'=[(26,.int .i64 (i:Int)),(25,.int .i64 ks.length),(24,.sl z ks.length none),(7,.gsl C i (L.length+2) 1),(4,.ptr (L.length+1) 0),(3,.ptr L.length 0),(2,.sl (aJ l) l.length cap)]/\L'=L++(.cells [.sl (cV ts) ts.length j,.sl c2 n2 r] :: .cells [.int .i64 1,.str a,.str v,.sl PS ps.length none,.sl z ks.length none] :: .spare i 1::Y)) asT ⟨0,[],[],rfl,apv _,hid rfl,rfl,asQ⟩ ?_;rintro _ _ _ ⟨i,C,Y,rfl,hi,y,rfl,rfl⟩;by_cases g:i<ks.length;obtain⟨q,J⟩:=t i g;obtain⟨e3,e4,M,g1,g2,N⟩:=J.o;have kk1:=@hid _ @M;clear M J;have d:=hid (show C++[.int .i64 (ofM ts l q)]=(V.take (i+1)).map (AV.int .i64)by rw[y.o,N]);clear N;simp only[abT]at e3 kk1;refine wk ?_;exact asU asP asT ⟨i+1,_,_,rfl,g,d,rfl,rfl⟩;have D:i=ks.length:=asP;subst D;have g1:¬(ks.length:Int)<(ks.length:Int):=asP;have d:=y.o;rw[<- c,apJ]at d;subst d;clear y t;replace c:=hid c;have kk1:Hid (∀{i:Nat}{L:List Blk}{K:apr},K (.int .i64 (orV V)) L->apq 65 [.gsl (V.map (AV.int .i64)) ks.length i 1] L K):=hid λq=>by rw[<- c.o];exact iL (by simpa only[AV.frzL,AV.frz,WL]using apa (cap:=none) (by have:=c.o;omega) q)
 have X:=hid (show K (.int .i64 (orV V)) L by have:=h.o;simpa[ad6]using this);refine wk ?_;exact ac rfl X.o;refine wk ?_;refine bR (l:=[]) (n:=0) 7 1 rfl (apU 1).symm ?_;rw[e2];refine aj (λm T' L'=>∃(i:Nat) (C:List AV) (Y:List Blk),m=ks.length-i/\i<=ks.length/\Hid (C=(V.take i).map (AV.int .i64))/\T'=[(26,.int .i64 (i:Int)),(25,.int .i64 ks.length),(24,.sl z ks.length none),(7,.gsl C i (L.length+2) 1),(4,.ptr (L.length+1) 0),(3,.ptr L.length 0),(2,.sl (aJ l) l.length cap)]/\L'=L++(.cells [.sl (cV ts) ts.length j,.sl c2 n2 r] :: .cells [.int .i64 2,.str a,.str v,.sl PS ps.length none,.sl z ks.length none] :: .spare i 1::Y)) asT ⟨0,[],[],rfl,apv _,hid rfl,rfl,asQ⟩ ?_;rintro _ _ _ ⟨i,C,Y,rfl,hi,y,rfl,rfl⟩;by_cases g:i<ks.length;obtain⟨q,J⟩:=t i g;obtain⟨e3,e4,M,g1,g2,N⟩:=J.o;have kk1:=@hid _ @M;clear M J;have d:=hid (show C++[.int .i64 (ofM ts l q)]=(V.take (i+1)).map (AV.int .i64)by rw[y.o,N]);clear N;simp only[abT]at e3 kk1;refine wk ?_;exact asU asP asT ⟨i+1,_,_,rfl,g,d,rfl,rfl⟩;have D:i=ks.length:=asP;subst D;have g1:¬(ks.length:Int)<(ks.length:Int):=asP;have d:=y.o;rw[<- c,apJ]at d;subst d;clear y t;replace c:=hid c;by_cases h1:ks.length=1;obtain⟨x,rfl⟩:∃x,V=[x]:=List.length_eq_one_iff.1 (c.o.trans h1);have X:=hid (show K (.int .i64 (N0 x)) L by have:=h.o;simpa[ad6]using this);rw[h1];refine wk ?_;refine VZ ?_;refine asX ?_;exact ac rfl X.o;have g3:¬(ks.length:Int)=1:=asP;have X:=hid (show K (.int .i64 2) L by have:=h.o;simpa[ad6,show V.length≠1 by rw[c.o];exact h1]using this)
 refine wk ?_;exact ac rfl X.o;rw[if_neg S]at h;unfold amL at h;have k0:¬k=0:=λe=>S (.inl e)
 have k1:¬k=1:=λe=>S (.inr (.inl e))
 have k2:¬k=2:=λe=>S (.inr (.inr e))
 have hn:bS a:=by unfold bS;omega
 refine apo wm ?_;refine acR G.1 G.2.1 hn ?_;unfold tt;rcases hty:gV ts a with _|ty;rw[hty]at h;replace h:=hid h;simp only[arH,asg,tyC];clear hty;refine asX ?_;exact ac rfl h.o;rw[hty]at h;simp only at h;simp only[aql,asl,tyC];by_cases m1:k<0;rw[if_pos (.inl m1)]at h;replace h:=hid h;clear hty;refine asX ?_;exact ac rfl h.o;by_cases m2:8<k;rw[if_pos (.inr m2)]at h;replace h:=hid h;clear hty;refine asX ?_;exact ac rfl h.o;rw[if_neg (λe=>e.elim m1 m2)]at h;have hW:(i8 l a).length<=1100000:=aeY hz;have kk1:Hid (Ctr Tryz.prog 67 [.sl (aJ l) l.length cap,.str a] (Sy (i8 l a))):=hid λq=>anF hl U.1 (λx hx=>⟨(WI G U hx).1,hz x hx⟩) hn q
 have kk3:Hid (Ctr Tryz.prog 70 [.agg [.sl (cV ts) ts.length j,.sl c2 n2 r],.sl (aJ l) l.length cap,.str a,.str v] (.bool (ajV ts l a v))):=hid λq=>anE G U hl hz hn q
 obtain⟨nn,al⟩:=apl ((dm ty.2.1 v).getD []);obtain⟨nb,O⟩:=apl ((dm ty.2.1 v).isSome);have kk2:Hid (Ctr Tryz.prog 68 [.int .i64 ty.2.1,.str v] (.tup [.str nn,.bool nb])):=hid λq=>alO (by rw[al,O];exact q)
 obtain⟨on,ai⟩:=apl ((ti ty.2.1 v v).getD 0);obtain⟨ob,Q⟩:=apl ((ti ty.2.1 v v).isSome);have kk4:Hid (Ctr Tryz.prog 75 [.int .i64 ty.2.1,.str v,.str v] (.tup [.int .i64 on,.bool ob])):=hid λq=>adN (by rw[ai,Q];exact q)
 have kk5:Hid (∀{b:Bool}{L:List Blk}{K:apr},K (.int .i64 (tf1 b)) L->apq 69 [.bool b] L K):=hid λq=>am5 q
 have kk6:Hid (Ctr Tryz.prog 71 [.agg [.int .i64 4,.str [97],.str [],.sl PS ps.length none,.sl [] 0 (some 0)]] (.int .i64 (if NY ps=true then 0 else 4))):=hid λq=>by rw[w.o];exact tO asP q
 unfold amN at h;have u:(dm ty.2.1 v).isNone = !nb:=by rw[<- O];cases dm ty.2.1 v<;>rfl
 have F:(ti ty.2.1 v v).isNone = !ob:=by rw[<- Q];cases ti ty.2.1 v v<;>rfl
 rw[u,F]at h;obtain⟨W,T⟩:=apl (i8 l a);obtain⟨H,Z⟩:=apl (ajV ts l a v);rw[T,Z]at h;rw[T]at hW kk1;rw[Z]at kk3;simp only[Sy]at kk1;have hc:k=3\/k=4\/k=5\/k=6\/k=7\/k=8:=asP;clear T Z u F Q ai O al hty hn I k0 k1 k2 m1 m2 S;rcases hc with rfl|rfl|rfl|rfl|rfl|rfl;cases nb with
 | false =>
   replace h:=hid (show K (.int .i64 2) L by simpa using h);refine asX ?_;exact ac rfl h.o
 | true =>
   replace h:=hid (show K (.int .i64 (tf1 H)) L by simpa using h);refine asX ?_;exact ac rfl h.o
 obtain⟨R,s⟩:=apl (W.any (λx=>(N6 ty.2.1 x ps).getD false));rw[s]at h;replace s:=hid s;by_cases s3:3<ty.2.1;replace h:=hid (show K (.int .i64 2) L by simpa[s3]using h);refine asX ?_;exact ac rfl h.o;cases hok:NY ps with
 | false =>
   replace h:=hid (show K (.int .i64 2) L by simpa[hok]using h);rw[hok]at kk6;simp only[apL,if_false]at kk6;clear hok;refine asX ?_;exact ac rfl h.o
 | true =>
   replace h:=hid (show K (.int .i64 (tf1 R)) L by simpa[hok,s3]using h);rw[hok]at kk6;simp only[if_true]at kk6;clear hok;refine asX ?_;refine aku (q:=λx=>(N6 ty.2.1 x ps).getD false) hW (λx K _ q=>aoo (ty:=ty) (k:=4) (a:=a) (v:=v) (cp:=none) (ks:=.sl z ks.length none) (by simp[tyC]) (by rw[<- w.o];simp) asP (λp hp=>by have:=r4 p hp;omega) q) ?_;rw[s.o];refine asX ?_;exact ac rfl h.o
 obtain⟨R,s⟩:=apl (W.any (λx=>decide ((ti ty.2.1 x v).getD 0=0) ||(decide (0<(ti ty.2.1 x v).getD 0) == decide ((5:Int)=5))));cases ob with
 | false =>
   replace h:=hid (show K (.int .i64 2) L by simpa using h);clear s;refine asX ?_;exact ac rfl h.o
 | true =>
   replace h:=hid (show K (.int .i64 (tf1 R)) L by rw[if_neg (by decide),if_neg (by decide),if_neg (by decide),if_neg (by decide)]at h;rw[<- s];exact h)
   replace s:=hid s;refine asX ?_;refine aku (q:=λx=>decide ((ti ty.2.1 x v).getD 0=0) ||(decide (0<(ti ty.2.1 x v).getD 0) == decide ((5:Int)=5))) hW (λx K _ q=>amI (ty:=ty) (k:=5) (a:=a) (v:=v) (ps:=.sl PS ps.length none) (ks:=.sl z ks.length none) (by simp[tyC]) asQ q) ?_;rw[s.o];refine asX ?_;exact ac rfl h.o
 obtain⟨R,s⟩:=apl (W.any (λx=>decide ((ti ty.2.1 x v).getD 0=0) ||(decide (0<(ti ty.2.1 x v).getD 0) == decide ((6:Int)=5))));cases ob with
 | false =>
   replace h:=hid (show K (.int .i64 2) L by simpa using h);clear s;refine asX ?_;exact ac rfl h.o
 | true =>
   replace h:=hid (show K (.int .i64 (tf1 R)) L by rw[if_neg (by decide),if_neg (by decide),if_neg (by decide),if_neg (by decide)]at h;rw[<- s];exact h)
   replace s:=hid s;refine asX ?_;refine aku (q:=λx=>decide ((ti ty.2.1 x v).getD 0=0) ||(decide (0<(ti ty.2.1 x v).getD 0) == decide ((6:Int)=5))) hW (λx K _ q=>amI (ty:=ty) (k:=6) (a:=a) (v:=v) (ps:=.sl PS ps.length none) (ks:=.sl z ks.length none) (by simp[tyC]) asQ q) ?_;rw[s.o];refine asX ?_;exact ac rfl h.o
 replace h:=hid (show K (.int .i64 (tf1 (decide ((0:Int)<(W.length:Int))))) L by have:(!W.isEmpty)=decide ((0:Int)<(W.length:Int)):=(by cases W<;>simp<;>omega);rw[<- this];simpa using h)
 refine asX ?_;exact ac rfl h.o;cases nb with
 | false =>
   replace h:=hid (show K (.int .i64 2) L by simpa using h);refine asX ?_;exact ac rfl h.o
 | true =>
   replace h:=hid (show K (.int .i64 (tf1 H)) L by simpa using h);refine asX ?_;exact ac rfl h.o
end Go.Proofs.YtdnfjhflkkpokaaGreatDoor.Av
