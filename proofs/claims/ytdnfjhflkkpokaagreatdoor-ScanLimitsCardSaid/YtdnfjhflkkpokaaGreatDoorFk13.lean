/- Joined texts of the walk, made small by a program. -/
import Derived.Test.YtdnfjhflkkpokaaGreatDoorFk4
import Derived.Test.YtdnfjhflkkpokaaGreatDoorRows
import Derived.KernelRfl
import Derived.Test.YtdnfjhflkkpokaaGreatDoorFk12
import Derived.Test.YtdnfjhflkkpokaaGreatDoorFk9
import Derived.Test.YtdnfjhflkkpokaaGreatDoorFk5
import Derived.Test.YtdnfjhflkkpokaaGreatDoorFk7
import Derived.Test.YtdnfjhflkkpokaaGreatDoorFk11
import Derived.Test.YtdnfjhflkkpokaaGreatDoorFk10
set_option linter.unusedSimpArgs false
set_option linter.unusedVariables false
set_option maxRecDepth 100000
namespace Go.Proofs.YtdnfjhflkkpokaaGreatDoor.Av
open Go
def Uw:LSO:=[Ac 4 0]
def Uv:LSO:=[Aa 6 0,Ah 7 6,Ac 8 0]
def Uu:LSO:=[Al 9 8 7]
def Ut:LSO:=[Aa 10 8,Aa 5 10]
def Us:LSO:=[Aa 11 0,Aa 12 5,Am 13 4 11 12,Ad 14 0 13,Ab 15 1 14,Aj 16 49 15,Aa 17 1,Aj 18 49 17,AF 19 16 18]
def Ur:LSO:=[Aa 20 5,Aa 4 20]
def Uq:LSO:=[Ai 21 8 1,Aa 8 21]
def Up:LSO:=[Ac 4 (-1)]
def S7:aK:=⟨22,(asI Uw [] (.seq (asI Uv CD (asL 0 (asI Uu [] (.seq (asM 9 0) (.seq (.block 1 (asI Ut C4 (asI Us CM (asK 19 (.sreg Ur C4))))) (.sreg Uq C4)))))) (asI Up [] .ret))),[(.tmp 4)]⟩
attribute [push_cast] Uw Uv Uu Ut Us Ur Uq Up
theorem aa7:asN 41=asO S7:=asR
def yw:LSO:=[Ak 4]
def yv:LSO:=[Aa 7 0,Ah 8 7,Ac 9 0]
def yu:LSO:=[Al 10 9 8]
def yt:LSO:=[Am 11 2 7 9,Ar 12 2 11,Bo 6,Ap 2 6 12]
def yr:LSO:=[Ad 13 0 6,Ab 14 1 13,Aj 15 49 14,Aa 16 1,Aj 17 49 16,AF 18 15 17]
def yq:LSO:=[Ce 19,Ad 20 1 6,Ab 21 1 20,BE 22 19 21,Aa 4 22]
def yo:LSO:=[Ai 23 9 1,Aa 9 23]
def ym:LSO:=[Ak 4]
def tC:aK:=⟨24,(asI yw [] (.seq (asI yv [] (asL 0 (asI yu [] (.seq (asM 10 0) (.seq (.block 1 (asI yt C6 (asI yr CB (asK 18 (.sreg yq CA))))) (.sreg yo C4)))))) (asI ym [] .ret))),[(.tmp 4)]⟩
attribute [push_cast] yw yv yu yt yr yq yo ym
theorem Wi:asN 29=asO tC:=asR
def KF:LSO:=[Aw 4]
def KE:LSO:=[Aa 8 0,Aa 9 1,As 10 92 8 9,Aa 7 10,Ao 11 7,Aq 12 7,Aa 5 11,Aa 6 12]
def KD:LSO:=[Aa 13 5,Aa 4 13]
def E6:aK:=⟨14,(asI KF [] (asI KE CZ (asI KD C4 .ret))),[(.tmp 4)]⟩
attribute [push_cast] KF KE KD
theorem Yu:asN 142=asO E6:=asR
def Uo:LSO:=[Af 6]
def Un:LSO:=[Aa 9 1,Ah 10 9,Ac 11 0]
def Um:LSO:=[Al 12 11 10]
def Ul:LSO:=[Am 13 1 9 11,Ab 14 1 13,Aa 8 14]
def Uk:LSO:=[Aa 15 0,Aa 16 8,As 17 142 15 16,Aa 18 2,AF 19 17 18]
def Uj:LSO:=[A0 6]
def Ui:LSO:=[Ai 20 11 1,Aa 11 20]
def Uh:LSO:=[Af 6]
def S6:aK:=⟨21,(asI Uo [] (.seq (asI Un [] (asL 0 (asI Um [] (.seq (asM 12 0) (.seq (.block 1 (asI Ul C6 (asI Uk CA (asK 19 (.sreg Uj []))))) (.sreg Ui C4)))))) (asI Uh [] .ret))),[(.tmp 6)]⟩
attribute [push_cast] Uo Un Um Ul Uk Uj Ui Uh
theorem aa6:asN 93=asO S6:=asR
def KP:LSO:=[Ak 6]
def KO:LSO:=[Ak 7]
def KN:LSO:=[Af 8]
def KM:LSO:=[Aa 11 1,Ah 12 11,Ac 13 0]
def KL:LSO:=[Al 14 13 12]
def KK:LSO:=[Am 15 1 11 13,Ab 16 1 15,Aa 10 16]
def KJ:LSO:=[Aa 17 8,A7 18 17,Aa 19 18,.grp none 19 true
 [Ae 20 19 0,Ae 21 19 2,AS 22 19 142 20 21,Ae 23 19 0,Ae 24 19 10,AS 25 19 142 23 24,Cu 26 19 22 25]
 27 (tm 26)]
def KI:LSO:=[Aa 28 7,Aa 29 2,B5 30 29,BE 31 28 30,Aa 7 31]
def KH:LSO:=[A0 8]
def KG:LSO:=[Aa 32 7,Aa 33 10,B5 34 33,BE 35 32 34,Aa 7 35]
def Ge:LSO:=[Ai 36 13 1,Aa 13 36]
def Gd:LSO:=[Aa 37 8,A7 38 37]
def Gc:LSO:=[Aa 39 7,Aa 40 2,B5 41 40,BE 42 39 41,Aa 7 42]
def Gb:LSO:=[Aa 43 7,Aa 6 43]
def E7:aK:=⟨44,(asI KP [] (asI KO [] (asI KN [] (.seq (asI KM [] (asL 0 (asI KL [] (.seq (asM 14 0) (.seq (.block 1 (asI KK C6 (.seq (asI KJ C7 (asJ 27 (asI KI CA (.sreg KH [])) .skip)) (.sreg KG CA)))) (.sreg Ge C4)))))) (.seq (asI Gd C4 (asJ 38 (.sreg Gc CA) .skip)) (asI Gb C4 .ret)))))),[(.tmp 6)]⟩
attribute [push_cast] KP KO KN KM KL KK KJ KI KH KG Ge Gd Gc Gb
theorem Yv:asN 94=asO E7:=asR
def Qy:LSO:=[Az 3 0,Ak 6,Ac 7 0]
def Qx:LSO:=[Aa 12 2,Ah 13 12,Ac 14 0]
def Qw:LSO:=[Al 15 14 13]
def Qv:LSO:=[Am 16 1 12 14,Ab 17 1 16,Aa 9 17]
def Qu:LSO:=[Ad 19 1 3,Ab 20 1 19,Aa 21 9,As 22 92 20 21,Aa 18 22,Ao 23 18,Aq 24 18,Aa 10 23,Aa 11 24]
def Qt:LSO:=[Aa 25 11,A7 26 25]
def Qs:LSO:=[Ak 6,Ac 7 21]
def Qr:LSO:=[Ad 27 1 3,Ab 28 1 27,Aa 29 1,Aa 30 10,AI 31 93 28 29 30]
def Qq:LSO:=[Ak 6,Ac 7 20]
def Qp:LSO:=[Ad 32 1 3,Ab 33 1 32,Aa 34 1,Aa 35 9,AI 36 94 33 34 35,Aa 1 36]
def KU:LSO:=[Ai 37 14 1,Aa 14 37]
def KT:LSO:=[Ad 38 2 3,Ab 39 1 38,Aa 40 39,.grp none 40 true
 [Ae 41 40 1,AE 42 40 41,BD 43 40 42 1]
 44 (tm 43)]
def KR:LSO:=[Ak 6,Ac 7 19]
def KQ:LSO:=[Aa 45 1,Aa 6 45,Ac 7 0]
def Om:aK:=⟨46,(asI Qy [] (.seq (asI Qx [] (asL 0 (asI Qw [] (.seq (asM 15 0) (.seq (.block 1 (asI Qv C6 (asI Qu CR (.seq (asI Qt C4 (asK 26 (.sreg Qs []))) (.seq (asI Qr CA (asK 31 (.sreg Qq []))) (.sreg Qp CB)))))) (.sreg KU C4)))))) (.seq (asI KT C7 (asK 44 (.sreg KR []))) (asI KQ CD .ret)))),[(.tmp 6),(.tmp 7)]⟩
attribute [push_cast] Qy Qx Qw Qv Qu Qt Qs Qr Qq Qp KU KT KR KQ
theorem aar:asN 42=asO Om:=asR
def QI:LSO:=[Ak 6]
def QH:LSO:=[Ak 7]
def QG:LSO:=[Aa 11 2,Ah 12 11,An 13 12 0,Aa 8 13]
def QF:LSO:=[Aa 14 0,Ah 15 14,Ac 16 0]
def QE:LSO:=[Al 17 16 15]
def QD:LSO:=[Am 18 2 14 16,Ar 19 2 18,Bo 10,Ap 2 10 19]
def QC:LSO:=[Aa 20 8,A7 21 20,Aa 22 21,.grp none 22 true
 [Ae 23 22 1,Bc 24 22 49 23,A6 25 22 0 10,A5 26 22 1 25,Bc 27 22 49 26,og 28 22 true (.bin .leq (tm 24) (tm 27))]
 29 (tm 28)]
def QB:LSO:=[Aa 30 7,Aa 31 1,Aa 32 2,o1 33 (.build [(.str []),(.sl [] 0 (some 0))] [(0,(1,(tm 31))),(1,(1,(tm 32)))]),BH 34 33,BZ 35 30 34,Aa 7 35]
def QA:LSO:=[A0 8]
def Qz:LSO:=[Aa 36 1,Aj 37 49 36,Ad 38 0 10,Ab 39 1 38,Aj 40 49 39,Be 41 37 40]
def K7:LSO:=[Aa 42 7,Ar 43 2 10,BH 44 43,BZ 45 42 44,Aa 7 45]
def K6:LSO:=[Ai 46 16 1,Aa 16 46]
def K5:LSO:=[Aa 47 8,A7 48 47]
def K4:LSO:=[Aa 49 7,Aa 50 1,Aa 51 2,o1 52 (.build [(.str []),(.sl [] 0 (some 0))] [(0,(1,(tm 50))),(1,(1,(tm 51)))]),BH 53 52,BZ 54 49 53,Aa 7 54]
def K3:LSO:=[Aa 55 7,Aa 6 55]
def On:aK:=⟨56,(asI QI [] (asI QH [] (asI QG C7 (.seq (asI QF [] (asL 0 (asI QE [] (.seq (asM 17 0) (.seq (.block 1 (asI QD C6 (.seq (.seq (.sdreg QC [.pure,.pure,.pure,.pure,(.read 0 0),.pure,(.read 0 0)] C7) (asJ 29 (asI QB CC (.sreg QA [])) .skip)) (.seq (.sdreg Qz [.pure,(.read 0 0),.pure,(.read 0 0)] CB) (asJ 41 (.sreg K7 CA) .skip))))) (.sreg K6 C4)))))) (.seq (asI K5 C4 (asJ 48 (.sreg K4 CC) .skip)) (asI K3 C4 .ret)))))),[(.tmp 6)]⟩
attribute [push_cast] QI QH QG QF QE QD QC QB QA Qz K7 K6 K5 K4 K3
theorem aas:asN 43=asO On:=asR
def Lt:LSO:=[Az 2 0,Ak 4,Ac 5 0]
def Lr:LSO:=[Ak 6]
def Lq:LSO:=[Aa 12 1,Ah 13 12,Ac 14 0]
def Lp:LSO:=[Al 15 14 13]
def Lo:LSO:=[Am 16 2 12 14,Ar 17 2 16,Bo 8,Ap 2 8 17]
def Ln:LSO:=[Ad 18 0 2,Ab 19 1 18,Ad 20 0 8,Ab 21 1 20,As 22 41 19 21,Aa 9 22]
def Lm:LSO:=[Aa 23 9,AJ 24 23 0]
def Ll:LSO:=[Ak 4,Ac 5 17]
def Lk:LSO:=[Ad 25 1 8,Ab 26 1 25,Ah 27 26,An 28 27 0]
def Lj:LSO:=[Ak 4,Ac 5 19]
def Gs:LSO:=[Ad 30 0 2,Ab 31 1 30,Aa 32 9,Am 33 4 31 32,Ar 34 4 33,Aa 35 6,Ad 36 0 8,Ab 37 1 36,As 38 29 35 37,Ad 39 1 8,Ab 40 1 39,AI 41 42 34 38 40,Aa 29 41,
 Ao 42 29,Aq 43 29,Aa 10 42,Aa 11 43]
def Gr:LSO:=[Aa 44 11,AB 45 44 0]
def Gq:LSO:=[Aa 46 11,Ak 4,Aa 5 46]
def Gp:LSO:=[Aa 47 6,Ad 48 0 2,Ab 49 1 48,Aa 50 9,Am 51 4 49 50,Ad 52 0 51,Ab 53 1 52,Aa 54 10,AI 55 43 47 53 54,Aa 6 55]
def Gn:LSO:=[Ai 56 14 1,Aa 14 56]
def Gm:LSO:=[Aa 57 6,Aa 4 57,Ac 5 0]
def Fa:aK:=⟨58,(asI Lt [] (asI Lr [] (.seq (asI Lq [] (asL 0 (asI Lp [] (.seq (asM 15 0) (.seq (.block 1 (asI Lo C6 (asI Ln CB (.seq (asI Lm C4 (asK 24 (.sreg Ll []))) (.seq (asI Lk C7 (asK 28 (.sreg Lj []))) (.seq (.sdreg Gs [.pure,(.read 0 0),.pure,(.read 0 0),(.read 0 0),.pure,.pure,(.read 0 0),(.read 0 0),.pure,(.read 0 0),(.read 0 0),.pure,.pure,.pure,.pure] [true,true,false,false,false,false,false,false,false,false,false,false,false,false,false,false,false]) (.seq (asI Gr C4 (asK 45 (.sreg Gq CD))) (.sreg Gp CG)))))))) (.sreg Gn C4)))))) (asI Gm CD .ret)))),[(.tmp 4),(.tmp 5)]⟩
attribute [push_cast] Lt Lr Lq Lp Lo Ln Lm Ll Lk Lj Gs Gr Gq Gp Gn Gm
theorem Yy:asN 14=asO Fa:=asR
attribute [push_cast] S7 tC E6 S6 E7 Om On Fa
variable {L:List Blk}{K:apr}
set_option maxHeartbeats 8000000
set_option maxRecDepth 100000
theorem aph{ts:List Typ}{cap:Option Nat}{n:List UInt8}(B:ts.length<=1100000)(i:∀t∈ts,bS t.1)(s:bS n)(q:gV ts n=none->K (.int .i64 (-1)) L)(r:∀k:Nat,k<ts.length->gV ts n=some (ts.getD k Eg)->K (.int .i64 k) L):
  apq 41 [.sl (cV ts) ts.length cap,.str n] L K:=by
 replace q:=hid q;replace r:=hid r;refine apo aa7 ?_;refine aj (λm T' L'=>∃k:Nat,m=ts.length-k/\k<=ts.length/\T'=[(8,.int .i64 (k:Int)),(7,.int .i64 ts.length),(0,.sl (cV ts) ts.length cap),(1,.str n)]/\L=L' /\
  ∀j,j<k->¬ak (ts.getD j Eg).1=ak n) (CutS (b:=apt _)) ⟨0,rfl,apv _,rfl,rfl,asQ⟩ ?_
 rintro _ _ L' ⟨k,rfl,y,rfl,e,f⟩;subst e;replace f:=hid f;by_cases c:k<ts.length;have g1:(k:Int)<(ts.length:Int):=asP;have A:=apn k asP;have z:k*4<(cV ts).length:=by rw[Tx];omega
 have x:(cV ts).getD (k*4) .undef=.str (ts.getD k Eg).1:=by have u:=congrArg (λl=>l[0]?) (OH c);simp only[aqs (show 0<4 by omega),aqo,aqz]at u;rw[apO,u];rfl
 obtain⟨ty,a⟩:=apl (ts.getD k Eg);have v:bS ty.1:=i _ (by rw[<- a];simp[c]);rw[a]at x;replace a:=hid a;by_cases w:ak ty.1=ak n;have e:gV ts n=some (ts.getD k Eg):=SS (d:=Eg) c (λj g=>decide_eq_false (f.o j g)) (by rw[a.o];exact decide_eq_true w);have p:=hid (r.o k c e);have kk1:=@asW _ _ _ _ (cY v);have kk2:=@asW _ _ _ _ (cY s);refine wk ?_;exact aa p.o;have kk1:=@asW _ _ _ _ (cY v);have kk2:=@asW _ _ _ _ (cY s);refine wk ?_;refine asU asP asS ⟨k+1,rfl,c,rfl,rfl,λj g=>?_⟩;rcases apV j k with h|h;exact f.o j h;have:j=k:=asP;subst this;rw[a.o];exact w;have g1:¬(k:Int)<(ts.length:Int):=asP;have p:=hid (q.o (aq2.2 λty a=>by obtain⟨j,g,e⟩:=aqn.1 a;have:=f.o j asP;simpa[g,e]using this))
 refine wk ?_;exact aa p.o
theorem Sz{syn:Int}{v:List UInt8}{L:List Blk}{K:apr}(h:K (.str (gm syn v)) L):apq 142 [.int .i64 syn,.str v] L K:=by
 unfold gm at h;refine apo Yu ?_;refine Xq ?_;rcases hm:dm syn v with _|m
 all_goals rw[hm]at h
 replace h:Hid (K (.str []) L):=hid h;simp only[kj];refine asX ?_;exact aa h.o;replace h:Hid (K (.str m) L):=hid h;simp only[kj];refine asX ?_;exact aa h.o
theorem aoq{syn:Int}{l:List (List UInt8)}{cap:Option Nat}{n:List UInt8}(t:l.length<=1100000)(h:K (.bool (inM syn l n)) L):
  apq 93 [.int .i64 syn,.sl (l.map AV.str) l.length cap,.str n] L K:=by
 obtain⟨R,g⟩:=apl (inM syn l n);rw[g]at h;replace h:=hid h;refine apo aa6 ?_;refine aj (λm T' L'=>∃k:Nat,m=l.length-k/\k<=l.length/\Hid (inM syn (l.drop k) n=R)/\T'=[(11,.int .i64 (k:Int)),(10,.int .i64 l.length),(9,.sl (l.map AV.str) l.length cap),(0,.int .i64 syn),(2,.str n)]/\L=L') (CutS (b:=apt _)) ⟨0,rfl,apv _,hid (by simpa using g),rfl,rfl⟩ ?_;rintro _ _ L' ⟨k,rfl,r,i,rfl,e⟩;subst e;by_cases d:k<l.length;have g1:(k:Int)<(l.length:Int):=asP;have s:=apn k asP;obtain⟨v,p⟩:=apl (l.getD k []);have g3:(l.map AV.str).getD k .undef=.str v:=by rw[<- p];simp[d]
 have f:l.drop k=v::l.drop (k+1):=by rw[apY d,<- p];simp[d]
 have a:=i.o;rw[f,inM,ar5]at a;clear p f i g;by_cases q:gm syn v=n;rw[decide_eq_true q,ari]at a;have c:=h.o;rw[<- a]at c;replace c:=hid c;clear a;have kk1:=@hid _ @Sz;refine wk ?_;exact aa c.o;rw[decide_eq_false q,aqG]at a;replace a:=hid a;have kk1:=@hid _ @Sz;refine wk ?_;exact asU asP asS ⟨k+1,rfl,d,a,rfl,rfl⟩;have j:k=l.length:=asP;subst j;have g1:¬(l.length:Int)<(l.length:Int):=asP;have c:=h.o;rw[<- i.o,aqe]at c;replace c:=hid c;clear i g;refine wk ?_;exact aa c.o
theorem ano{syn:Int}{l:List (List UInt8)}{cap:Option Nat}{v:List UInt8}(B:l.length<=1100000)(h:K (Sy (jw syn v false l)) L):
  apq 94 [.int .i64 syn,.sl (l.map AV.str) l.length cap,.str v] L K:=by
 obtain⟨R,r⟩:=apl (jw syn v false l);rw[r]at h;replace h:=hid h;refine apo Yv ?_;refine bR (l:=[]) (n:=0) 7 1 rfl (apU 1).symm ?_;refine aj (λm T' L'=>∃(k:Nat) (d:Bool) (u:List (List UInt8)) (C:List AV) (n:Nat),m=l.length-k/\k<=l.length/\n<=k+1/\(d=false->n<=k)/\Hid (C=u.map AV.str/\n=u.length)/\Hid (u++jw syn v d (l.drop k)=R)/\T'=[(13,.int .i64 (k:Int)),(12,.int .i64 l.length),(11,.sl (l.map AV.str) l.length cap),(8,.bool d),(7,.gsl C n L.length 1),(0,.int .i64 syn),(2,.str v)]/\L'=L++[.spare n 1]) asT ⟨0,false,[],[],0,rfl,apv _,asQ,asQ,hid ⟨rfl,rfl⟩,hid (by simpa using r),rfl,rfl⟩ ?_;rintro _ _ _ ⟨k,d,u,C,n,rfl,D,A,i,j,t,rfl,rfl⟩;by_cases f:k<l.length
 .have g1:(k:Int)<(l.length:Int):=asP;have E:=apn k asP;obtain⟨x,s⟩:=apl (l.getD k []);have g3:(l.map AV.str).getD k .undef=.str x:=(by rw[<- s];simp[f]);have q:l.drop k=x::l.drop (k+1):=(by rw[apY f,<- s];simp[f]);have a:=t.o;rw[q,jw]at a;clear s q t r;have g:∀(y:List UInt8),(C++[.str y]=(u++[y]).map AV.str/\n+1=(u++[y]).length):=λy=>by obtain⟨rfl,rfl⟩:=j.o;simp
  replace g:=hid g;replace a:=hid a;cases d with
  | true =>
    have b:=a.o;rw[if_neg asQ]at b;simp only[apZ,ari]at b;replace b:=hid b;clear a;have kk1:=@hid _ @Sz;refine wk ?_;refine asU asP asS ⟨k+1,true,u++[x],C++[.str x],n+1,rfl,f,asP,asQ,hid (g.o x),hid (by simpa using b.o),rfl,rfl⟩
  | false =>
    have p:=i rfl
    repeat' first
     |refine bG ?_
     | (first|refine bw asR ?_|refine aN asR ?_|refine aQ ?_|refine cS ?_|refine bJ (fun _=>?_)|refine aF ?_|refine bA ?_|refine Sz ?_|refine bf (Sz ⟨rfl,rfl⟩) (Sz ⟨rfl,rfl⟩) ?_|refine aM (Sz ⟨rfl,rfl⟩) ?_)
       refine sm ?_
     | (first|refine bq asR ?_|refine bm ?_|refine aP ?_|refine bz ?_|refine bO (aE ?_))
       refine sl ?_
     |exact bK
     |first|apply bL|apply br|apply bM|apply bu|apply bN|apply bv
     |refine aT ?_
     |refine aO ?_
     |first|refine aR rfl ?_|refine aS rfl ?_|refine aB rfl ?_ ?_|refine aW rfl (λ_=>?_) (λ_=>?_)|refine aV rfl (λ_=>?_) (λ_=>?_)
     |((first|refine aA (λ_=>?_) (λ_=>?_)|refine aD (λ_=>?_) (λ_=>?_))<;>try refine sm ?_)
     |refine And.intro trivial ?_
     |refine And.intro asP ?_
     |refine bd rfl (λ_=>?_) (λ_=>?_)
     |refine And.intro ?_ ?_
    .rename_i hq;rw[bytesLess_eq,decide_eq_true_eq]at hq;have b:=a.o;rw[if_pos ⟨rfl,hq⟩,decide_eq_true hq,ar1]at b;refine asU asP asS ⟨k+1,true,u++[v]++[x],C++[.str v]++[.str x],n+1+1,rfl,f,asP,asQ,hid ?_,hid (by simpa using b),rfl,rfl⟩;obtain⟨rfl,rfl⟩:=j.o;simp
    .rename_i hq;rw[bytesLess_eq,decide_eq_false_iff_not]at hq;have b:=a.o;rw[if_neg (λe=>hq e.2),decide_eq_false hq]at b;refine asU asP asS ⟨k+1,false,u++[x],C++[.str x],n+1,rfl,f,asP,asP,hid (g.o x),hid (by simpa using b),rfl,rfl⟩
 have w:k=l.length:=asP;subst w;have g1:¬(l.length:Int)<(l.length:Int):=asP;have a:=t.o;rw[aqe,jw]at a;have z:AV.frzL (R.map AV.str)=R.map AV.str:=iV R;have c:∀X:List Blk,Fin L (.sl (R.map AV.str) R.length none) (L++X) K:=λX=>ac (by simp only[AV.refs,jb]) h.o
 replace c:=hid c;cases d with
 | true =>
   rw[if_pos rfl,ap4]at a;subst a;refine wk ?_;refine aY ?_;simp only[AV.frz];rw[j.o.1,z,j.o.2];exact c.o _
 | false =>
   rw[if_neg asQ]at a;subst a;have p:=i rfl;refine wk ?_;refine aY ?_;simp only[AV.frz];rw[show C++[AV.str v]=(u++[v]).map AV.str by rw[j.o.1];simp,z,show n+1=(u++[v]).length by rw[j.o.2];simp];exact c.o _
theorem ZK(syn:Int)(v:List UInt8):∀(l:List (List UInt8)) (d:Bool),(jw syn v d l).length<=l.length+1
 |[],d=>by rw[jw];split<;>simp
 | x::t,d=>by
   rw[jw];by_cases h:d=false/\gm syn v<gm syn x
   .rw[if_pos h,decide_eq_true h.2,ar1,SH];simp
   .have:=ZK syn v t (d ||decide (gm syn v<gm syn x));rw[if_neg h];simp;omega
theorem ani{ty:Typ}{l vs:List (List UInt8)}{cap d:Option Nat}(C:l.length+vs.length<=1100000){R:List (List UInt8)×Int}(g:ie ty.2.1 ty.2.2.1 l vs=R)(h:K (.tup [Sy R.1,.int .i64 R.2]) L):
  apq 42 [.agg (tyC ty),.sl (l.map AV.str) l.length cap,.sl (vs.map AV.str) vs.length d] L K:=by
 replace h:=hid h;replace g:=hid g;simp only[tyC];refine apo aar ?_;refine aj (λm T' L'=>∃(i:Nat) (u:List (List UInt8)) (p:Option Nat),m=vs.length-i/\i<=vs.length/\u.length<=l.length+i/\Hid (ie ty.2.1 ty.2.2.1 u (vs.drop i)=R)/\T'=[(14,.int .i64 (i:Int)),(13,.int .i64 vs.length),(12,.sl (vs.map AV.str) vs.length d),(1,.sl (u.map AV.str) u.length p),(3,.ptr L.length 0)]/\L'=L++[Blk.cells (tyC ty)]) asT ⟨0,l,cap,rfl,apv _,apt _,hid (by simpa using g.o),rfl,rfl⟩ ?_;rintro _ _ _ ⟨i,u,p,rfl,B,z,k,rfl,rfl⟩;simp only[tyC];by_cases c:i<vs.length
 .have g1:(i:Int)<(vs.length:Int):=asP;have D:=apn i asP;obtain⟨v,s⟩:=apl (vs.getD i []);have g3:(vs.map AV.str).getD i .undef=.str v:=(by rw[<- s];simp[c]);have j:vs.drop i=v::vs.drop (i+1):=(by rw[apY c,<- s];simp[c]);have a:=k.o;rw[j]at a;have f:u.length<=1100000:=asP;clear s j k g;refine wk ?_;refine Xq ?_;rcases hn:dm ty.2.1 v with _|n;rw[aie hn]at a;have b:=h.o;rw[<- a]at b;replace b:=hid b;simp only[kj];clear a hn;refine asX ?_;exact aY (ac rfl b.o);rw[aid hn]at a;simp only[kj];rcases hb:inM ty.2.1 u n with _|_
  rotate_left
  rw[if_pos hb]at a;have b:=h.o;rw[<- a]at b;replace b:=hid b;clear a hn;refine sk ?_;have kk1:=@asW _ _ _ _ (aoq (syn:=ty.2.1) (n:=n) (cap:=p) f);refine wk ?_;exact aY (ac rfl b.o);rw[if_neg (by rw[hb];simp)]at a;obtain⟨A,x⟩:=apl (jw ty.2.1 v false u);have r:=ZK ty.2.1 v u false;rw[x]at a r;replace a:=hid a;clear hn;refine sk ?_;have kk1:=@asW _ _ _ _ (aoq (syn:=ty.2.1) (n:=n) (cap:=p) f);have kk2:=@asW _ _ _ _ (ano (syn:=ty.2.1) (v:=v) (cap:=p) f);refine wk ?_;exact asU asP asS ⟨i+1,A,none,rfl,c,asP,a,rfl,rfl⟩
 have w:i=vs.length:=asP;subst w;have g1:¬(vs.length:Int)<(vs.length:Int):=asP;have a:=k.o;rw[aqe,ie]at a;by_cases q:ty.2.2.1=true/\1<u.length;rw[if_pos q]at a;have b:=h.o;rw[<- a]at b;replace b:=hid b;obtain⟨y,t⟩:=q;have g3:(1:Int)<(u.length:Int):=asP;clear k a g t;refine wk ?_;exact aY (ac rfl b.o);rw[if_neg q]at a;have g3:(ty.2.2.1&&decide ((1:Int)<(u.length:Int)))=false:=by rcases hsg:ty.2.2.1 with _|_;rfl;simp only[ap0,decide_eq_false_iff_not];intro e;exact q ⟨hsg,asP⟩
 have b:=h.o;rw[<- a]at b;replace b:=hid b;clear k a g q;refine wk ?_;refine aY (ac ?_ ?_);simp only[AV.frz,AV.frzL,iV,AV.refs,AV.refsL,jb];rfl;simp only[AV.frz,AV.frzL,iV];exact b.o
theorem ahi{l:List Atr}{cap:Option Nat}{n:List UInt8}(y:l.length<=1100000)(t:∀a∈l,bS a.1/\a.2.length<=1100000)(q:bS n)(h:K (Sy (i8 l n)) L):
  apq 29 [.sl (aJ l) l.length cap,.str n] L K:=by
 obtain⟨R,e⟩:=apl (i8 l n);rw[e]at h;replace h:=hid h;replace e:=hid e;refine apo Wi ?_;refine aj (λm T' L'=>∃(k:Nat) (X:List Blk),m=l.length-k/\k<=l.length/\Hid (i8 (l.drop k) n=R)/\T'=[(9,.int .i64 (k:Int)),(8,.int .i64 l.length),(7,.sl (aJ l) l.length cap),(1,.str n)]/\L'=L++X) asT ⟨0,[],rfl,apv _,hid (by simpa using e.o),rfl,asQ⟩ ?_;rintro _ _ _ ⟨k,X,rfl,v,j,rfl,rfl⟩;by_cases c:k<l.length;have g1:(k:Int)<(l.length:Int):=asP;have x:=apn k asP;have r:=jF c;have w:k*2+2<=(aJ l).length:=by rw[iI];omega
 obtain⟨⟨nm,vs⟩,g⟩:∃a,l.getD k ([],[])=a:=⟨_,rfl⟩;have f:l.drop k=(nm,vs)::l.drop (k+1):=by rw[apY c,<- g];simp[c]
 obtain⟨d,p⟩:=t (nm,vs) (by rw[<- g];simp[c]);simp only at d p;rw[g]at r;simp only[atA]at r;have b:=j.o;rw[f,i8]at b;simp only at b;clear j f g t e;by_cases s:ak nm=ak n;rw[if_pos s]at b;subst b;have u:AV.frzL (vs.map AV.str)=vs.map AV.str:=iV vs;have kk1:=@asW _ _ _ _ (cY d);have kk2:=@asW _ _ _ _ (cY q);refine wk ?_;refine aY ?_;simp only[AV.frz,u];exact ac (by simp only[AV.refs,jb]) h.o;rw[if_neg s]at b;replace b:=hid b;have kk1:=@asW _ _ _ _ (cY d);have kk2:=@asW _ _ _ _ (cY q);refine wk ?_;exact asU asP asS ⟨k+1,_,rfl,c,b,rfl,rfl⟩;have i:k=l.length:=asP;subst i;have g1:¬(l.length:Int)<(l.length:Int):=asP;have b:=j.o;rw[aqe,i8]at b;subst b;refine wk ?_;exact aY (ac rfl h.o)
theorem anf{l:List Atr}{cap y:Option Nat}{n:List UInt8}{vs:List (List UInt8)}(Z:l.length<=1100000)(O:∀a∈l,bS a.1/\a.2.length<=1100000)(B:bS n)(h:K (.sl (aJ (rQ n vs vs.isEmpty l)) (rQ n vs vs.isEmpty l).length none) L):
  apq 43 [.sl (aJ l) l.length cap,.str n,.sl (vs.map AV.str) vs.length y] L K:=by
 obtain⟨R,A⟩:=apl (rQ n vs vs.isEmpty l);rw[A]at h;replace h:=hid h;obtain⟨Q,v⟩:=apl (vs.isEmpty);have w:decide ((vs.length:Int)=0)=Q:=by rw[<- v];cases vs<;>simp;omega
 rw[v]at A;replace A:=hid A;have V:AV.frzL (vs.map AV.str)=vs.map AV.str:=iV vs;replace v:=hid v;refine apo aas ?_;refine bR (l:=[]) (n:=0) 7 2 rfl (apU 2).symm ?_;refine aj (λm T' L'=>∃(k:Nat) (d:Bool) (u:List Atr) (C:List AV) (z:Nat) (X:List Blk),m=l.length-k/\k<=l.length/\z<=k+1/\(d=false->z<=k)/\Hid (C=aJ u/\z=u.length)/\Hid (u++rQ n vs d (l.drop k)=R)/\T'=[(16,.int .i64 (k:Int)),(15,.int .i64 l.length),(14,.sl (aJ l) l.length cap),(8,.bool d),(7,.gsl C z L.length 2),(1,.str n),(2,.sl (vs.map AV.str) vs.length y)]/\L'=L++(.spare z 2::X)) asT ⟨0,Q,[],[],0,[],rfl,apv _,asQ,asQ,hid ⟨rfl,rfl⟩,hid (by simpa using A.o),rfl,rfl⟩ ?_;rintro _ _ _ ⟨k,d,u,C,z,X,rfl,U,T,q,t,G,rfl,rfl⟩;by_cases g:k<l.length;have g1:(k:Int)<(l.length:Int):=asP;have W:=apn k asP;have P:=jF g;have Y:k*2+2<=(aJ l).length:=by rw[iI];omega
 obtain⟨⟨nm,f⟩,F⟩:∃a,l.getD k ([],[])=a:=⟨_,rfl⟩;have E:l.drop k=(nm,f)::l.drop (k+1):=by rw[apY g,<- F];simp[g]
 obtain⟨j,M⟩:=O (nm,f) (by rw[<- F];simp[g]);simp only at j M;rw[F]at P;simp only[atA]at P;have ew:AV.frzL (f.map AV.str)=f.map AV.str:=iV f;have c:=G.o;rw[E,rQ]at c;simp only at c;have i:∀(H:List AV) (D:List Atr) (I:Nat) (a:Atr),H=aJ D/\I=D.length->H++[.str a.1,.sl (a.2.map AV.str) a.2.length none]=aJ (D++[a])/\I+1=(D++[a]).length:=λH D I a e=>by obtain⟨rfl,rfl⟩:=e;simp[Wq,aJ]
 replace i:=hid i;replace w:=hid w;clear G E F O A;by_cases r:ak nm<ak n;have x:ak n≠ak nm:=λe=>by rw[e]at r;exact aq9 _ r
 have N:Op.bytesLess (ak n) (ak nm)=false:=by rw[bytesLess_eq,decide_eq_false_iff_not];exact λe=>aq9 _ (List.lt_trans r e)
 cases d with
 | true =>
   have b:=c;rw[if_neg (λe=>by cases e.1),if_pos x]at b;rw[show(true || !decide (ak nm<ak n))=true by simp[r]]at b;replace b:=hid b;clear c;have kk1:=@asW _ _ _ _ (cY B);have kk2:=@asW _ _ _ _ (cY j);refine wk ?_;exact asU asP asS ⟨k+1,true,u++[(nm,f)],C++[.str nm,.sl (f.map AV.str) f.length none],z+1,_,rfl,g,asP,asQ,hid (i.o _ _ _ (nm,f) t.o),hid (by simpa using b.o),rfl,rfl⟩
 | false =>
   have s:=q rfl;have b:=c;rw[if_neg (λe=>e.2 r),if_pos x]at b;rw[show(false || !decide (ak nm<ak n))=false by simp[r]]at b;replace b:=hid b;clear c;have kk1:=@asW _ _ _ _ (cY B);have kk2:=@asW _ _ _ _ (cY j);refine wk ?_;exact asU asP asS ⟨k+1,false,u++[(nm,f)],C++[.str nm,.sl (f.map AV.str) f.length none],z+1,_,rfl,g,asP,by simp;omega,hid (i.o _ _ _ (nm,f) t.o),hid (by simpa using b.o),rfl,rfl⟩
 by_cases x:ak n=ak nm;have N:Op.bytesLess (ak n) (ak nm)=false:=by rw[bytesLess_eq,decide_eq_false_iff_not,x];exact aq9 _
 cases d with
 | true =>
   have b:=c;rw[if_neg (λe=>by cases e.1),if_neg (λe=>e x)]at b;rw[show(true || !decide (ak nm<ak n))=true by simp[r]]at b;replace b:=hid b;clear c;have kk1:=@asW _ _ _ _ (cY B);have kk2:=@asW _ _ _ _ (cY j);refine wk ?_;exact asU asP asS ⟨k+1,true,u,C,z,_,rfl,g,asP,asQ,hid t.o,hid (by simpa using b.o),rfl,rfl⟩
 | false =>
   have s:=q rfl;have b:=c;rw[if_pos ⟨rfl,r⟩,if_neg (λe=>e x)]at b;rw[show(false || !decide (ak nm<ak n))=true by simp[r]]at b;replace b:=hid b;clear c;have kk1:=@asW _ _ _ _ (cY B);have kk2:=@asW _ _ _ _ (cY j);refine wk ?_;exact asU asP asS ⟨k+1,true,u++[(n,vs)],C++[.str n,.sl (vs.map AV.str) vs.length none],z+1,_,rfl,g,asP,asQ,hid (i.o _ _ _ (n,vs) t.o),hid (by simpa using b.o),rfl,rfl⟩
 have N:Op.bytesLess (ak n) (ak nm)=true:=by rw[bytesLess_eq,decide_eq_true_eq];exact(List.le_iff_lt_or_eq.1 (arA.1 r)).resolve_right x
 cases d with
 | true =>
   have b:=c;rw[if_neg (λe=>by cases e.1),if_pos x]at b;rw[show(true || !decide (ak nm<ak n))=true by simp[r]]at b;replace b:=hid b;clear c;have kk1:=@asW _ _ _ _ (cY B);have kk2:=@asW _ _ _ _ (cY j);refine wk ?_;exact asU asP asS ⟨k+1,true,u++[(nm,f)],C++[.str nm,.sl (f.map AV.str) f.length none],z+1,_,rfl,g,asP,asQ,hid (i.o _ _ _ (nm,f) t.o),hid (by simpa using b.o),rfl,rfl⟩
 | false =>
   have s:=q rfl;have b:=c;rw[if_pos ⟨rfl,r⟩,if_pos x]at b;rw[show(false || !decide (ak nm<ak n))=true by simp[r]]at b;replace b:=hid b;clear c;have kk1:=@asW _ _ _ _ (cY B);have kk2:=@asW _ _ _ _ (cY j);refine wk ?_;exact asU asP asS ⟨k+1,true,u++[(n,vs)]++[(nm,f)],C++[.str n,.sl (vs.map AV.str) vs.length none]++[.str nm,.sl (f.map AV.str) f.length none],z+1+1,_,rfl,g,asP,asQ,hid (i.o _ _ _ (nm,f) (i.o _ _ _ (n,vs) t.o)),hid (by simpa using b.o),rfl,rfl⟩
 have J:k=l.length:=asP;subst J;have g1:¬(l.length:Int)<(l.length:Int):=asP;have c:=G.o;rw[aqe,rQ]at c;have S:=fi R;have p:∀X:List Blk,Fin L (.sl (aJ R) R.length none) (L++X) K:=λX=>ac (by simp only[AV.refs,ko]) h.o
 replace p:=hid p;replace w:=hid w;clear G A;cases d with
 | true =>
   rw[if_pos rfl,ap4]at c;subst c;refine wk ?_;refine aY ?_;simp only[AV.frz];rw[t.o.1,S,t.o.2];exact p.o _
 | false =>
   rw[if_neg asQ]at c;subst c;have s:=q rfl;refine wk ?_;refine aY ?_;simp only[AV.frz];rw[show C++[AV.str n,.sl (vs.map AV.str) vs.length none]=aJ (u++[(n,vs)])by rw[t.o.1,Wq];simp[aJ],S,show z+1=(u++[(n,vs)]).length by rw[t.o.2];simp];exact p.o _
theorem aly{ts:List Typ}{w:Option Nat}{c2:List AV}{U:Nat}{y:Option Nat}{b:List Atr}{cap:Option Nat}(v:akF ts)(hl:b.length<=100)(Q:∀a∈b,bS a.1/\a.2.length<=9000){R:List Atr×Int}(F:wl ts [] b=R)(h:K (.tup [.sl (aJ R.1) R.1.length none,.int .i64 R.2]) L):
  apq 14 [.agg [.sl (cV ts) ts.length w,.sl c2 U y],.sl (aJ b) b.length cap] L K:=by
 replace h:=hid h;replace F:=hid F;refine apo Yy ?_;obtain⟨sC,P⟩:=apl (AV.sl c2 U y);rw[P];refine aj (λm T' L'=>∃(i:Nat) (out:List Atr) (M:Option Nat) (X:List Blk),m=b.length-i/\i<=b.length/\out.length<=i/\Hid (wl ts out (b.drop i)=R)/\Hid (∀a∈out,bS a.1/\a.2.length<=9000*i)/\T'=[(14,.int .i64 (i:Int)),(13,.int .i64 b.length),(12,.sl (aJ b) b.length cap),(6,.sl (aJ out) out.length M),(2,.ptr L.length 0)]/\L'=L++(.cells [.sl (cV ts) ts.length w,sC]::X)) asT ⟨0,[],some 0,[],rfl,apv _,apt _,hid (by simpa using F.o),hid asQ,rfl,asQ⟩ ?_;rintro _ _ _ ⟨i,out,M,X,rfl,hi,ai,O,E,rfl,rfl⟩;by_cases s:i<b.length;have g1:(i:Int)<(b.length:Int):=asP;have g2:=apn i asP;have Z:=jF s;have e4:i*2+2<=(aJ b).length:=by rw[iI];omega
 obtain⟨⟨nm,vs⟩,k⟩:∃a,b.getD i ([],[])=a:=⟨_,rfl⟩;have I:b.drop i=(nm,vs)::b.drop (i+1):=by rw[apY s,<- k];simp[s]
 obtain⟨C,S⟩:=Q (nm,vs) (by rw[<- k];simp[s]);simp only at C S;rw[k]at Z;simp only[atA]at Z;have d:=O.o;rw[I,wl]at d;simp only at d;replace d:=hid d;clear O I k Q F;refine wk ?_;refine aph v.1 v.2.1 C (λj=>?_) (λt W j=>?_);have c:=d.o;rw[j]at c;simp only at c;have g:=h.o;rw[<- c]at g;replace g:=hid g;clear d c j;refine asX ?_;exact aY (ac rfl g.o);have c:=d.o;have e5:=OH W;have e6:t*4+4<=(cV ts).length:=by rw[Tx];omega
 have e8:(cV ts).getD (t*4) .undef=.str (ts.getD t Eg).1:=by have Y:=congrArg (λl=>l[0]?) (OH W);simp only[aqs (show 0<4 by omega),aqo,aqz]at Y;rw[apO,Y];rfl
 have g3:¬(t:Int)<0:=asP;have g4:(t:Int)<(ts.length:Int):=asP;have g6:t*4<(cV ts).length:=asP;have n:=OI j;obtain⟨ty,u⟩:=apl (ts.getD t Eg);rw[u]at j e5 e8 n;rw[j]at c;simp only at c;simp only[tyC]at e5;by_cases r:vs=[];rw[if_pos r]at c;have g:=h.o;rw[<- c]at g;replace g:=hid g;subst r;clear d c j n u;refine asX ?_;exact aY (ac rfl g.o);rw[if_neg r]at c;have g5:¬(vs.length:Int)=0:=by rcases vs with _|⟨x,t⟩;exact absurd rfl r;simp;omega
 obtain⟨V,G⟩:=apl (i8 out nm);have ad:V.length<=9000*i:=by rw[<- G];exact aeY λa k=>(E.o a k).2
 rw[G]at c;obtain⟨A,D⟩:=apl (ie ty.2.1 ty.2.2.1 V vs);rw[D]at c;have kk1:Hid (Ctr Tryz.prog 29 [.sl (aJ out) out.length M,.str nm] (.sl (V.map AV.str) V.length none)):=hid λq=>ahi asP (λa k=>⟨(E.o a k).1,by have:=(E.o a k).2;omega⟩) C (by rw[G];exact q)
 have kk2:Hid (Ctr Tryz.prog 42 [.agg [.str ty.1,.int .i64 ty.2.1,.bool ty.2.2.1,.bool ty.2.2.2],.sl (V.map AV.str) V.length none,.sl (vs.map AV.str) vs.length none] (.tup [.sl (A.1.map AV.str) A.1.length none,.int .i64 A.2])):=hid λq=>ani (ty:=ty) asP D q
 have kk3:Hid (Ctr Tryz.prog 43 [.sl (aJ out) out.length M,.str ty.1,.sl (A.1.map AV.str) A.1.length none] (.sl (aJ (rQ ty.1 A.1 A.1.isEmpty out)) (rQ ty.1 A.1 A.1.isEmpty out).length none)):=hid λq=>anf asP (λa k=>⟨(E.o a k).1,by have:=(E.o a k).2;omega⟩) (v.2.1 ty n.1) q
 obtain⟨N,A2⟩:=A;simp only at kk2 kk3 c;obtain⟨p,f⟩:=apl (rQ ty.1 N N.isEmpty out);rw[f]at kk3 c;clear d r j;by_cases J:A2=0;subst J;rw[if_neg asQ]at c;have B:=aaN (by rw[D]:(ie ty.2.1 ty.2.2.1 V vs).2=0);rw[D]at B;simp only at B;have H:p.length<=i+1:=by have:=@acl ty.1 N N.isEmpty out;rw[f]at this;split at this<;>omega
 have z:∀a∈p,bS a.1/\a.2.length<=9000*(i+1):=λa k=>by rw[<- f]at k;rcases Ze k with e|e;rw[e];exact⟨v.2.1 ty n.1,by simp only;omega⟩;have:=E.o a e;exact⟨this.1,asP⟩
 replace c:=hid c;replace z:=hid z;clear D G f B n u;refine asX ?_;exact asU asP asS ⟨i+1,p,none,_,rfl,s,H,c,z,rfl,rfl⟩;rw[if_pos J]at c;have g:=h.o;rw[<- c]at g;replace g:=hid g;clear D G f n c u;refine asX ?_;exact aY (ac rfl g.o);have T:i=b.length:=asP;subst T;have g1:¬(b.length:Int)<(b.length:Int):=asP;have d:=O.o;rw[aqe,wl]at d;have g:=h.o;rw[<- d]at g;replace g:=hid g;clear O d F Q;have e0:=fi out;refine wk ?_;refine aY ?_;simp only[AV.frz,AV.frzL,e0];exact ac (by simp only[AV.refs,AV.refsL,ko];rfl) g.o
theorem ajE{ts:List Typ}{B:Nat}:∀{l out:List Atr}{i:Nat},out.length<=i->(∀a∈out,a.2.length<=B*i)->(∀a∈l,a.2.length<=B)->(wl ts out l).1.length<=i+l.length/\∀a∈(wl ts out l).1,a.2.length<=B*(i+l.length)
 |[],out,i,h1,h2,_=>by rw[wl];exact⟨h1,h2⟩
 | x::t,out,i,h1,h2,h3=>by
   have nil:([]:List Atr).length<=i+(x::t).length/\∀a∈([]:List Atr),a.2.length<=B*(i+(x::t).length):=⟨asQ,λa b=>by cases b⟩;rw[wl];rcases hty:gV ts x.1 with _|ty
   .omega
   .simp only;split
    .omega
    .split
     .omega
     .rename_i hd;simp only[ne_eq,ar6]at hd;have c:=aaN hd;have d:=aeY (l:=out) (n:=x.1) h2;have f:=h3 x asQ;have g:=Nat.mul_add_one B i;have:=@ajE ts B t (rQ ty.1 (ie ty.2.1 ty.2.2.1 (i8 out x.1) x.2).1 (ie ty.2.1 ty.2.2.1 (i8 out x.1) x.2).1.isEmpty out) (i+1) (by
       have:=@acl ty.1 (ie ty.2.1 ty.2.2.1 (i8 out x.1) x.2).1 (ie ty.2.1 ty.2.2.1 (i8 out x.1) x.2).1.isEmpty out;split at this<;>omega) (λa b=>by
       rcases Ze b with e|e
       .rw[e];simp only;omega
       .have:=h2 a e;omega) (λa b=>h3 a (by simp[b]))
      grind
end Go.Proofs.YtdnfjhflkkpokaaGreatDoor.Av
set_option maxRecDepth 100000
namespace Go.Proofs.YtdnfjhflkkpokaaGreatDoor.Av
open Go
def Gz:LSO:=[Ak 6]
def Gy:LSO:=[Aa 9 2,Ah 10 9,Ac 11 0]
def Gx:LSO:=[Al 12 11 10]
def Gw:LSO:=[Am 13 1 9 11,Ab 14 1 13,Aa 8 14]
def Gv:LSO:=[Aa 15 0,Aa 16 8,Aa 17 1,o1 18 (.build [(.str []),(.int .i64 0),(.bool false),(.bool false)] [(0,(1,(tm 16))),(1,(1,(tm 17)))]),Cb 19 18,Cc 20 15 19,
 Aa 0 20]
def Gu:LSO:=[Ai 21 11 1,Aa 11 21]
def Gt:LSO:=[Aa 22 0,Aa 6 22]
def wy:aK:=⟨23,(asI Gz [] (.seq (asI Gy [] (asL 0 (asI Gx [] (.seq (asM 12 0) (.seq (.block 1 (asI Gw C6 (.sreg Gv CC))) (.sreg Gu C4)))))) (asI Gt C4 .ret))),[(.tmp 6)]⟩
attribute [push_cast] Gz Gy Gx Gw Gv Gu Gt
theorem W2:asN 44=asO wy:=asR
def LD:LSO:=[C0 0]
def LC:LSO:=[C0 1]
def LB:LSO:=[Ad 5 0 1,Ab 6 1 5,o1 7 (.bslice false 1 1 [(.str [])] [(0,(1,(.av (.str [111,98,106,101,99,116,67,108,97,115,115]))))]),B7 8 44 6 3 7,Ad 9 0 1,Ap 1 9 8]
def LA:LSO:=[Ad 10 0 1,Ab 11 1 10,
 o1 12 (.bslice false 1 4 [(.str []),(.str []),(.str []),(.str [])] [(0,(1,(.av (.str [99,110])))),(1,(1,(.av (.str [115,110])))),(2,(1,(.av (.str [111,117])))),(3,(1,(.av (.str [111]))))]),
 B7 13 44 11 1 12,Ad 14 0 1,Ap 1 14 13]
def Lz:LSO:=[Ad 15 0 1,Ab 16 1 15,
 o1 17 (.bslice false 1 3 [(.str []),(.str []),(.str [])] [(0,(1,(.av (.str [100,99])))),(1,(1,(.av (.str [117,105,100])))),(2,(1,(.av (.str [109,97,105,108]))))]),
 B7 18 44 16 3 17,Ad 19 0 1,Ap 1 19 18]
def Ly:LSO:=[Ad 20 0 1,Ab 21 1 20,BI 22,B7 23 44 21 1 22,Ad 24 0 1,Ap 1 24 23]
def Lx:LSO:=[Ad 25 0 1,Ab 26 1 25,o1 27 (.bslice false 1 1 [(.str [])] [(0,(1,(.av (.str [109,101,109,98,101,114]))))]),B7 28 44 26 6 27,Ad 29 0 1,Ap 1 29 28]
def Lw:LSO:=[Ad 30 0 1,Ab 31 1 30,o1 32 (.bslice false 1 1 [(.str [])] [(0,(1,(.av (.str [117,115,101,114,80,97,115,115,119,111,114,100]))))]),B7 33 44 31 7 32,
 Ad 34 0 1,Ap 1 34 33]
def Lv:LSO:=[Ad 35 0 1,Ab 36 1 35,
 o1 37 (.build [(.str []),(.int .i64 0),(.bool false),(.bool false)] [(0,(1,(.av (.str [101,109,112,108,111,121,101,101,78,117,109,98,101,114])))),(1,(1,(iv 4))),(2,(1,(.av (.bool true))))]),
 Cb 38 37,Cc 39 36 38,Ad 40 0 1,Ap 1 40 39]
def Lu:LSO:=[Ad 41 0 1,Ab 42 1 41,
 o1 43 (.build [(.str []),(.int .i64 0),(.bool false),(.bool false)] [(0,(1,(.av (.str [97,99,116,105,118,101])))),(1,(1,(iv 5))),(2,(1,(.av (.bool true))))]),Cb 44 43,
 Cc 45 42 44,Ad 46 0 1,Ap 1 46 45]
def GW:LSO:=[o1 47 (.bslice false 1 5 [(.str []),(.str []),(.str []),(.str []),(.str [])] [(0,(1,(.av (.str [99,114,101,97,116,101,100,65,116])))),(1,(1,(.av (.str [99,104,97,110,103,101,100,65,116])))),(2,(1,(.av (.str [112,119,100,70,97,105,108,117,114,101])))),(3,(1,(.av (.str [112,119,100,76,111,99,107,101,100])))),(4,(1,(.av (.str [112,119,100,67,104,97,110,103,101,100]))))]),
 Ah 48 47,Ac 49 0]
def GV:LSO:=[Al 50 49 48]
def GU:LSO:=[Am 51 1 47 49,Ab 52 1 51,Aa 3 52]
def GT:LSO:=[Aa 53 3,
 o1 54 (.build [(.str []),(.int .i64 0),(.bool false),(.bool false)] [(0,(1,(tm 53))),(1,(1,(iv 4))),(2,(1,(.av (.bool true)))),(3,(1,(.av (.bool true))))]),By 4,Ap 4 4 54]
def GS:LSO:=[Aa 55 3,o1 56 (.bin .eql (tm 55) (.av (.str [112,119,100,70,97,105,108,117,114,101])))]
def GR:LSO:=[Ad 57 1 4,Cd 1 57 3]
def GP:LSO:=[Ad 58 2 4,o0 (.store 1 (tm 58) (.av (.bool false)))]
def GN:LSO:=[Ad 59 0 1,Ab 60 1 59,Ar 61 4 4,Cb 62 61,Cc 63 60 62,Ad 64 0 1,Ap 1 64 63]
def GM:LSO:=[Ai 65 49 1,Aa 49 65]
def GK:LSO:=[Ad 66 1 1,Ab 67 1 66,o1 68 (.bslice false 1 1 [(.str [])] [(0,(1,(.av (.str [111,98,106,101,99,116,67,108,97,115,115]))))]),
 o1 69 (.bslice false 1 5 [(.str []),(.str []),(.str []),(.str []),(.str [])] [(0,(1,(.av (.str [99,114,101,97,116,101,100,65,116])))),(1,(1,(.av (.str [99,104,97,110,103,101,100,65,116])))),(2,(1,(.av (.str [112,119,100,70,97,105,108,117,114,101])))),(3,(1,(.av (.str [112,119,100,76,111,99,107,101,100])))),(4,(1,(.av (.str [112,119,100,67,104,97,110,103,101,100]))))]),
 o1 70 (.build [(.str []),(.str []),(.int .i64 0),(.sl [] 0 (some 0)),(.sl [] 0 (some 0))] [(0,(1,(.av (.str [116,111,112])))),(3,(1,(tm 68))),(4,(1,(tm 69)))]),Bp 71 70,
 Bq 72 67 71,Ad 73 1 1,Ap 1 73 72]
def GJ:LSO:=[Ad 74 1 1,Ab 75 1 74,o1 76 (.bslice false 1 1 [(.str [])] [(0,(1,(.av (.str [100,99]))))]),BI 77,
 o1 78 (.build [(.str []),(.str []),(.int .i64 0),(.sl [] 0 (some 0)),(.sl [] 0 (some 0))] [(0,(1,(.av (.str [100,111,109,97,105,110])))),(1,(1,(.av (.str [116,111,112])))),(2,(1,(iv 1))),(3,(1,(tm 76))),(4,(1,(tm 77)))]),
 Bp 79 78,Bq 80 75 79,Ad 81 1 1,Ap 1 81 80]
def GI:LSO:=[Ad 82 1 1,Ab 83 1 82,o1 84 (.bslice false 1 1 [(.str [])] [(0,(1,(.av (.str [111]))))]),BI 85,
 o1 86 (.build [(.str []),(.str []),(.int .i64 0),(.sl [] 0 (some 0)),(.sl [] 0 (some 0))] [(0,(1,(.av (.str [111,114,103,97,110,105,122,97,116,105,111,110])))),(1,(1,(.av (.str [116,111,112])))),(2,(1,(iv 1))),(3,(1,(tm 84))),(4,(1,(tm 85)))]),
 Bp 87 86,Bq 88 83 87,Ad 89 1 1,Ap 1 89 88]
def GH:LSO:=[Ad 90 1 1,Ab 91 1 90,o1 92 (.bslice false 1 1 [(.str [])] [(0,(1,(.av (.str [111,117]))))]),BI 93,
 o1 94 (.build [(.str []),(.str []),(.int .i64 0),(.sl [] 0 (some 0)),(.sl [] 0 (some 0))] [(0,(1,(.av (.str [111,114,103,97,110,105,122,97,116,105,111,110,97,108,85,110,105,116])))),(1,(1,(.av (.str [116,111,112])))),(2,(1,(iv 1))),(3,(1,(tm 92))),(4,(1,(tm 93)))]),
 Bp 95 94,Bq 96 91 95,Ad 97 1 1,Ap 1 97 96]
def GF:LSO:=[Ad 98 1 1,Ab 99 1 98,o1 100 (.bslice false 1 2 [(.str []),(.str [])] [(0,(1,(.av (.str [99,110])))),(1,(1,(.av (.str [115,110]))))]),
 o1 101 (.bslice false 1 2 [(.str []),(.str [])] [(0,(1,(.av (.str [100,101,115,99,114,105,112,116,105,111,110])))),(1,(1,(.av (.str [117,115,101,114,80,97,115,115,119,111,114,100]))))]),
 o1 102 (.build [(.str []),(.str []),(.int .i64 0),(.sl [] 0 (some 0)),(.sl [] 0 (some 0))] [(0,(1,(.av (.str [112,101,114,115,111,110])))),(1,(1,(.av (.str [116,111,112])))),(2,(1,(iv 1))),(3,(1,(tm 100))),(4,(1,(tm 101)))]),
 Bp 103 102,Bq 104 99 103,Ad 105 1 1,Ap 1 105 104]
def GE:LSO:=[Ad 106 1 1,Ab 107 1 106,
 o1 108 (.bslice false 1 4 [(.str []),(.str []),(.str []),(.str [])] [(0,(1,(.av (.str [117,105,100])))),(1,(1,(.av (.str [109,97,105,108])))),(2,(1,(.av (.str [101,109,112,108,111,121,101,101,78,117,109,98,101,114])))),(3,(1,(.av (.str [97,99,116,105,118,101]))))]),
 o1 109 (.build [(.str []),(.str []),(.int .i64 0),(.sl [] 0 (some 0)),(.sl [] 0 (some 0))] [(0,(1,(.av (.str [105,110,101,116,80,101,114,115,111,110])))),(1,(1,(.av (.str [112,101,114,115,111,110])))),(2,(1,(iv 1))),(4,(1,(tm 108)))]),
 Bp 110 109,Bq 111 107 110,Ad 112 1 1,Ap 1 112 111]
def GD:LSO:=[Ad 113 1 1,Ab 114 1 113,o1 115 (.bslice false 1 2 [(.str []),(.str [])] [(0,(1,(.av (.str [99,110])))),(1,(1,(.av (.str [109,101,109,98,101,114]))))]),
 BI 116,
 o1 117 (.build [(.str []),(.str []),(.int .i64 0),(.sl [] 0 (some 0)),(.sl [] 0 (some 0))] [(0,(1,(.av (.str [103,114,111,117,112])))),(1,(1,(.av (.str [116,111,112])))),(2,(1,(iv 1))),(3,(1,(tm 115))),(4,(1,(tm 116)))]),
 Bp 118 117,Bq 119 114 118,Ad 120 1 1,Ap 1 120 119]
def GC:LSO:=[Ad 121 1 1,Ab 122 1 121,o1 123 (.bslice false 1 1 [(.str [])] [(0,(1,(.av (.str [117,115,101,114,80,97,115,115,119,111,114,100]))))]),
 o1 124 (.build [(.str []),(.str []),(.int .i64 0),(.sl [] 0 (some 0)),(.sl [] 0 (some 0))] [(0,(1,(.av (.str [115,101,99,117,114,101,100])))),(1,(1,(.av (.str [116,111,112])))),(2,(1,(iv 2))),(3,(1,(tm 123)))]),
 Bp 125 124,Bq 126 122 125,Ad 127 1 1,Ap 1 127 126]
def GB:LSO:=[Ad 128 1 1,Ab 129 1 128,o1 130 (.bslice false 1 2 [(.str []),(.str [])] [(0,(1,(.av (.str [117,105,100])))),(1,(1,(.av (.str [109,97,105,108]))))]),
 o1 131 (.build [(.str []),(.str []),(.int .i64 0),(.sl [] 0 (some 0)),(.sl [] 0 (some 0))] [(0,(1,(.av (.str [108,97,98,101,108,108,101,100])))),(1,(1,(.av (.str [116,111,112])))),(2,(1,(iv 2))),(4,(1,(tm 130)))]),
 Bp 132 131,Bq 133 129 132,Ad 134 1 1,Ap 1 134 133]
def GA:LSO:=[Ar 135 2 1,Ap 2 0 135]
def Fb:aK:=⟨136,(asI LD [] (asI LC [] (asI LB CQ (asI LA CQ (asI Lz CQ (asI Ly CQ (asI Lx CQ (asI Lw CQ (asI Lv Di (asI Lu Di (.seq (asI GW [] (asL 0 (asI GV [] (.seq (asM 50 0) (.seq (.block 1 (asI GU C6 (asI GT C6 (.seq (asI GS C4 (asJ 56 (asI GR [false] (.sreg GP [false])) .skip)) (.sreg GN Di))))) (.sreg GM C4)))))) (asI GK CO (asI GJ CO (asI GI CO (asI GH CO (asI GF CO (asI GE CT (asI GD CO (asI GC CT (asI GB CT (asI GA [false] .ret))))))))))))))))))))),[(.cell true 2 0)]⟩
attribute [push_cast] LD LC LB LA Lz Ly Lx Lw Lv Lu GW GV GU GT GS GR GP GN GM GK GJ GI GH GF GE GD GC GB GA
theorem Yz:asN 15=asO Fb:=asR
attribute [push_cast] wy
variable {L:List Blk}{K:apr}
set_option maxHeartbeats 8000000
set_option maxRecDepth 1000000
abbrev tnC(syn:Int)(nm:List UInt8):List AV:=[.str nm,.int .i64 syn,.bool false,.bool false]
theorem ahg{α:Type}{L:List α}{p:Nat}{b:α}(h:L[p]?=some b):L.set p b=L:=by apply arr;intro i;rw[ap3];split;rename_i e;subst e;rw[h,if_pos (aps.1 h).1];rfl
theorem ak7{C:List AV}{n p:Nat}{syn:Int}{names:List (List UInt8)}{cap:Option Nat}(y:n+names.length<=1100000)(s:L[p]?=some (.spare n 4))(h:K (.gsl (C++names.flatMap (tnC syn)) (n+names.length) p 4) (L.set p (.spare (n+names.length) 4))):
  apq 44 [.gsl C n p 4,.int .i64 syn,.sl (names.map AV.str) names.length cap] L K:=by
 have q:p<L.length:=(aps.1 s).1;have e:∀b,(L.set p b)[p]?=some b:=λb=>by simp[q]
 replace h:=hid h;refine apo W2 ?_;refine aj (λm T' L'=>∃(j z:Nat) (D:List AV) (M:List Blk),m=names.length-j/\j<=names.length/\z=n+j/\Hid (D=C++(names.take j).flatMap (tnC syn))/\Hid (M=L.set p (.spare z 4))/\T'=[(11,.int .i64 (j:Int)),(10,.int .i64 names.length),(9,.sl (names.map AV.str) names.length cap),(0,.gsl D z p 4),(1,.int .i64 syn)]/\M=L') (CutS (b:=apt _)) ⟨0,n,C,L,rfl,apv _,rfl,hid asQ,hid (ahg s).symm,rfl,rfl⟩ ?_;rintro _ _ _ ⟨j,z,D,M,rfl,A,t,k,g,rfl,rfl⟩;by_cases d:j<names.length;have g1:(j:Int)<(names.length:Int):=asP;have E:=apn j asP;obtain⟨x,l⟩:=apl (names.getD j []);have B:(names.map AV.str).getD j .undef=.str x:=by rw[<- l];simp[d]
 have i:names.take (j+1)=names.take j++[x]:=by rw[apK d,<- l];simp[d]
 have u:M[p]?=some (.spare z 4):=by rw[g.o];exact e _
 have c:D++[.str x,.int .i64 syn,.bool false,.bool false]=C++(names.take (j+1)).flatMap (tnC syn):=by rw[k.o,i];simp
 have a:M.set p (.spare (z+1) 4)=L.set p (.spare (z+1) 4):=by rw[g.o,List.set_set]
 have w:M.length=L.length:=by rw[g.o];simp
 replace c:=hid c;replace a:=hid a;have v:z+1<=1100000:=asP;have f:z+1=n+(j+1):=asP;replace f:=hid f;clear l i k g e t;refine wk ?_;exact asU asP (CutL (b:=by simp;omega)) ⟨j+1,z+1,_,_,rfl,d,f.o,c,a,rfl,rfl⟩;have r:j=names.length:=asP;subst r;have g1:¬(names.length:Int)<(names.length:Int):=asP;have c:=k.o;have a:=g.o;rw[apJ]at c;subst c t;rw[a]at *;clear k g a;refine wk ?_;exact aa h.o
def aX:List Typ:=[([111,98,106,101,99,116,67,108,97,115,115],3,false,false),([99,110],1,false,false),([115,110],1,false,false),([111,117],1,false,false),([111],1,false,false),([100,99],3,false,false),([117,105,100],3,false,false),([109,97,105,108],3,false,false),([100,101,115,99,114,105,112,116,105,111,110],1,false,false),([109,101,109,98,101,114],6,false,false),([117,115,101,114,80,97,115,115,119,111,114,100],7,false,false),([101,109,112,108,111,121,101,101,78,117,109,98,101,114],4,true,false),([97,99,116,105,118,101],5,true,false),([99,114,101,97,116,101,100,65,116],4,true,true),([99,104,97,110,103,101,100,65,116],4,true,true),([112,119,100,70,97,105,108,117,114,101],3,false,true),([112,119,100,76,111,99,107,101,100],4,true,true),([112,119,100,67,104,97,110,103,101,100],4,true,true)]
def abY:List AV:=[.str [116,111,112],.str [],.int .i64 0,.sl [.str [111,98,106,101,99,116,67,108,97,115,115]] 1 none,.sl [.str [99,114,101,97,116,101,100,65,116],.str [99,104,97,110,103,101,100,65,116],.str [112,119,100,70,97,105,108,117,114,101],.str [112,119,100,76,111,99,107,101,100],.str [112,119,100,67,104,97,110,103,101,100]] 5 none,.str [100,111,109,97,105,110],.str [116,111,112],.int .i64 1,.sl [.str [100,99]] 1 none,.sl [.str [100,101,115,99,114,105,112,116,105,111,110]] 1 none,.str [111,114,103,97,110,105,122,97,116,105,111,110],.str [116,111,112],.int .i64 1,.sl [.str [111]] 1 none,.sl [.str [100,101,115,99,114,105,112,116,105,111,110]] 1 none,.str [111,114,103,97,110,105,122,97,116,105,111,110,97,108,85,110,105,116],.str [116,111,112],.int .i64 1,.sl [.str [111,117]] 1 none,.sl [.str [100,101,115,99,114,105,112,116,105,111,110]] 1 none,.str [112,101,114,115,111,110],.str [116,111,112],.int .i64 1,.sl [.str [99,110],.str [115,110]] 2 none,.sl [.str [100,101,115,99,114,105,112,116,105,111,110],.str [117,115,101,114,80,97,115,115,119,111,114,100]] 2 none,.str [105,110,101,116,80,101,114,115,111,110],.str [112,101,114,115,111,110],.int .i64 1,.sl [] 0 none,.sl [.str [117,105,100],.str [109,97,105,108],.str [101,109,112,108,111,121,101,101,78,117,109,98,101,114],.str [97,99,116,105,118,101]] 4 none,.str [103,114,111,117,112],.str [116,111,112],.int .i64 1,.sl [.str [99,110],.str [109,101,109,98,101,114]] 2 none,.sl [.str [100,101,115,99,114,105,112,116,105,111,110]] 1 none,.str [115,101,99,117,114,101,100],.str [116,111,112],.int .i64 2,.sl [.str [117,115,101,114,80,97,115,115,119,111,114,100]] 1 none,.sl [] 0 none,.str [108,97,98,101,108,108,101,100],.str [116,111,112],.int .i64 2,.sl [] 0 none,.sl [.str [117,105,100],.str [109,97,105,108]] 2 none]
theorem ado:∀ts:List Typ,AV.frzL (cV ts)=cV ts
 |[]=>rfl
 |ty::ts=>by rw[show cV (ty::ts)=tyC ty++cV ts from rfl];simp only[tyC,aqa,apZ,AV.frzL,AV.frz,ado ts]
theorem abn(p:Nat->Bool):∀ts:List Typ,AV.refsL p (cV ts)=true
 |[]=>rfl
 |ty::ts=>by rw[show cV (ty::ts)=tyC ty++cV ts from rfl];simp only[tyC,aqa,apZ,AV.refsL,AV.refs,abn p ts,arx]
theorem aoa{P:Program}{N:Nat}{own:Nat->Nat->Nat}{Q:Exit->Tm->List Blk->Prop}{T:Tm}{lc:bP}{L L':List Blk}(e:L=L')(h:AW P N own lc Q T L'):AW P N own lc Q T L:=e▸h
theorem afT(h:K (.agg [.sl (cV aX) aX.length none,.sl abY 9 none]) L):apq 15 [] L K:=by
 have r:∀(a:Nat) (syn:Int) (s:List (List UInt8)) (b:Nat),cV (aX.take a)++s.flatMap (tnC syn)=cV (aX.take b)->a+s.length=b->b<=100->∀K:AV->List Blk->Prop,K (.gsl (cV (aX.take b)) b (L.length+2) 4) (L++[.cells [.sl [] 0 (some 0),.sl [] 0 (some 0)],.cells [.gsl (cV (aX.take a)) a (L.length+2) 4,.gsl [] 0 (L.length+3) 5],.spare b 4,.spare 0 5])->apq 44 [.gsl (cV (aX.take a)) a (L.length+2) 4,.int .i64 syn,.sl (s.map AV.str) s.length (some s.length)] (L++[.cells [.sl [] 0 (some 0),.sl [] 0 (some 0)],.cells [.gsl (cV (aX.take a)) a (L.length+2) 4,.gsl [] 0 (L.length+3) 5],.spare a 4,.spare 0 5]) K:=λa syn s b C M T K q=>by refine ak7 asP asQ ?_;rw[C,M,apW _ _ asP,show L.length+2-L.length=2 by omega];exact q
 have y:=r 0 3 [[111,98,106,101,99,116,67,108,97,115,115]] 1 rfl rfl asP;have u:=r 1 1 [[99,110],[115,110],[111,117],[111]] 5 rfl rfl asP;have A:=r 5 3 [[100,99],[117,105,100],[109,97,105,108]] 8 rfl rfl asP;have v:=r 8 1 [[100,101,115,99,114,105,112,116,105,111,110]] 9 rfl rfl asP;have x:=r 9 6 [[109,101,109,98,101,114]] 10 rfl rfl asP;have t:=r 10 7 [[117,115,101,114,80,97,115,115,119,111,114,100]] 11 rfl rfl asP;clear r;obtain⟨P,C⟩:=apl (cV (aX.take 1));obtain⟨U,H⟩:=apl (cV (aX.take 5));obtain⟨R,G⟩:=apl (cV (aX.take 8));obtain⟨O,F⟩:=apl (cV (aX.take 9));obtain⟨I,B⟩:=apl (cV (aX.take 10));obtain⟨N,i⟩:=apl (cV (aX.take 11));rw[show cV (aX.take 0)=[]from rfl]at y;rw[C]at y u;rw[H]at u A;rw[G]at A v;rw[F]at v x;rw[B]at x t;rw[i]at t;simp only[apX,ara,apC,ap9,aqA,Nat.reduceAdd]at y u A v x t;have kk1:=@hid _ (λ{K:apr}=>y K);have kk2:=@hid _ (λ{K:apr}=>u K);have kk3:=@hid _ (λ{K:apr}=>A K);have kk4:=@hid _ (λ{K:apr}=>v K);have kk5:=@hid _ (λ{K:apr}=>x K);have kk6:=@hid _ (λ{K:apr}=>t K);clear y u A v x t;clear C H G F B;replace i:=hid i;replace h:=hid h;refine ab Yz (by simp[Fb]) ?_;simp only[Fb,ag]
 iterate 6 first
  |refine bG ?_
  | (first|refine bw asR ?_|refine aN asR ?_|refine aQ ?_|refine cS ?_|refine bJ (fun _=>?_)|refine aF ?_|refine bA ?_)
    simp(config:={maxSteps:=2000000}) only[Kon,push_cast,reduceIte,Nat.reduceEqDiff,Nat.reduceAdd,Nat.reduceMul,Nat.reduceSub,Nat.reduceLT,Nat.reduceLeDiff,Int.reduceLT,Int.reduceLE,Int.reduceAdd,Int.reduceSub,Int.reduceNeg,Int.reduceToNat,Int.reduceEq,reduceCtorEq, *]
  | (first|refine bq asR ?_|refine bm ?_|refine aP ?_|refine bz ?_|refine bO (aE ?_))
    simp only[push_cast,reduceIte,Nat.reduceEqDiff,Nat.reduceAdd,Nat.reduceMul,Nat.reduceSub,Nat.reduceLT,Nat.reduceLeDiff,Int.reduceLT,Int.reduceLE,Int.reduceAdd,Int.reduceSub,Int.reduceNeg,Int.reduceToNat,Int.reduceEq,reduceCtorEq, *]
  |exact bK
  |first|apply bL|apply br|apply bM|apply bu|apply bN|apply bv
  |refine aT ?_
  |refine aO ?_
  |first|refine aR rfl ?_|refine aS rfl ?_|refine aB rfl ?_ ?_|refine aW rfl (λ_=>?_) (λ_=>?_)|refine aV rfl (λ_=>?_) (λ_=>?_)
  |((first|refine aA (λ_=>?_) (λ_=>?_)|refine aD (λ_=>?_) (λ_=>?_))<;>try simp(config:={maxSteps:=2000000}) only[Kon,push_cast,reduceIte,Nat.reduceEqDiff,Nat.reduceAdd,Nat.reduceMul,Nat.reduceSub,Nat.reduceLT,Nat.reduceLeDiff,Int.reduceLT,Int.reduceLE,Int.reduceAdd,Int.reduceSub,Int.reduceNeg,Int.reduceToNat,Int.reduceEq,reduceCtorEq, *])
  |refine And.intro trivial ?_
  |refine And.intro asP ?_
  |refine bd rfl (λ_=>?_) (λ_=>?_)
  |refine And.intro ?_ ?_
 refine aaW (L.length+1) 0 4 (c:=[.sl [] 0 (some 0),.sl [] 0 (some 0)]) (l:=[]) (n:=0) asQ rfl rfl ?_;refine aaW (L.length+1) 1 5 (c:=[.gsl [] 0 (L.length+2) 4,.sl [] 0 (some 0)]) (l:=[]) (n:=0) asQ rfl rfl ?_;refine aoa (L':=L++[.cells [.sl [] 0 (some 0),.sl [] 0 (some 0)],.cells [.gsl [] 0 (L.length+2) 4,.gsl [] 0 (L.length+3) 5],.spare 0 4,.spare 0 5]) asQ ?_;refine wk ?_;refine aj (λm T' L'=>∃(j z:Nat) (D:List AV) (X:List Blk),m=5-j/\j<=5/\Hid (z=13+j)/\Hid (D=cV (aX.take (13+j)))/\T'=[(49,.int .i64 (j:Int)),(48,.int .i64 5),(47,.sl [.str [99,114,101,97,116,101,100,65,116],.str [99,104,97,110,103,101,100,65,116],.str [112,119,100,70,97,105,108,117,114,101],.str [112,119,100,76,111,99,107,101,100],.str [112,119,100,67,104,97,110,103,101,100]] 5 (some 5)),(1,.ptr (L.length+1) 0),(0,.ptr L.length 0)]/\L'=L++(.cells [.sl [] 0 (some 0),.sl [] 0 (some 0)] :: .cells [.gsl D z (L.length+2) 4,.gsl [] 0 (L.length+3) 5] :: .spare z 4 :: .spare 0 5::X)) asT ⟨0,13,_,[],rfl,asP,hid rfl,hid (by rw[<- i.o];rfl),rfl,rfl⟩ ?_;clear kk1 kk2 kk3 kk4 kk5 kk6 i;rintro _ _ _ ⟨j,z,D,X,rfl,S,w,g,rfl,rfl⟩;by_cases p:j<5;have g1:(j:Int)<5:=asP;have Q:=apn j asP;have J:z<=20:=by have:=w.o;omega
 have f:z+1=13+(j+1):=by have:=w.o;omega
 replace f:=hid f;have k:j=0\/j=1\/j=2\/j=3\/j=4:=asP;clear w;rcases k with e|e|e|e|e;have E:([.str [99,114,101,97,116,101,100,65,116],.str [99,104,97,110,103,101,100,65,116],.str [112,119,100,70,97,105,108,117,114,101],.str [112,119,100,76,111,99,107,101,100],.str [112,119,100,67,104,97,110,103,101,100]]:List AV).getD j .undef=.str [99,114,101,97,116,101,100,65,116]:=by rw[e];rfl
 have d:D++[.str [99,114,101,97,116,101,100,65,116],.int .i64 4,.bool true,.bool true]=cV (aX.take (13+(j+1))):=by rw[g.o,e];rfl
 replace d:=hid d;replace e:=hid e;clear g;refine wk ?_;exact asU asP asS ⟨j+1,z+1,_,_,rfl,p,f,d,rfl,rfl⟩;have E:([.str [99,114,101,97,116,101,100,65,116],.str [99,104,97,110,103,101,100,65,116],.str [112,119,100,70,97,105,108,117,114,101],.str [112,119,100,76,111,99,107,101,100],.str [112,119,100,67,104,97,110,103,101,100]]:List AV).getD j .undef=.str [99,104,97,110,103,101,100,65,116]:=by rw[e];rfl
 have d:D++[.str [99,104,97,110,103,101,100,65,116],.int .i64 4,.bool true,.bool true]=cV (aX.take (13+(j+1))):=by rw[g.o,e];rfl
 replace d:=hid d;replace e:=hid e;clear g;refine wk ?_;exact asU asP asS ⟨j+1,z+1,_,_,rfl,p,f,d,rfl,rfl⟩;have E:([.str [99,114,101,97,116,101,100,65,116],.str [99,104,97,110,103,101,100,65,116],.str [112,119,100,70,97,105,108,117,114,101],.str [112,119,100,76,111,99,107,101,100],.str [112,119,100,67,104,97,110,103,101,100]]:List AV).getD j .undef=.str [112,119,100,70,97,105,108,117,114,101]:=by rw[e];rfl
 have d:D++[.str [112,119,100,70,97,105,108,117,114,101],.int .i64 3,.bool false,.bool true]=cV (aX.take (13+(j+1))):=by rw[g.o,e];rfl
 replace d:=hid d;replace e:=hid e;clear g;refine wk ?_;exact asU asP asS ⟨j+1,z+1,_,_,rfl,p,f,d,rfl,rfl⟩;have E:([.str [99,114,101,97,116,101,100,65,116],.str [99,104,97,110,103,101,100,65,116],.str [112,119,100,70,97,105,108,117,114,101],.str [112,119,100,76,111,99,107,101,100],.str [112,119,100,67,104,97,110,103,101,100]]:List AV).getD j .undef=.str [112,119,100,76,111,99,107,101,100]:=by rw[e];rfl
 have d:D++[.str [112,119,100,76,111,99,107,101,100],.int .i64 4,.bool true,.bool true]=cV (aX.take (13+(j+1))):=by rw[g.o,e];rfl
 replace d:=hid d;replace e:=hid e;clear g;refine wk ?_;exact asU asP asS ⟨j+1,z+1,_,_,rfl,p,f,d,rfl,rfl⟩;have E:([.str [99,114,101,97,116,101,100,65,116],.str [99,104,97,110,103,101,100,65,116],.str [112,119,100,70,97,105,108,117,114,101],.str [112,119,100,76,111,99,107,101,100],.str [112,119,100,67,104,97,110,103,101,100]]:List AV).getD j .undef=.str [112,119,100,67,104,97,110,103,101,100]:=by rw[e];rfl
 have d:D++[.str [112,119,100,67,104,97,110,103,101,100],.int .i64 4,.bool true,.bool true]=cV (aX.take (13+(j+1))):=by rw[g.o,e];rfl
 replace d:=hid d;replace e:=hid e;clear g;refine wk ?_;exact asU asP asS ⟨j+1,z+1,_,_,rfl,p,f,d,rfl,rfl⟩;have g1:¬(j:Int)<5:=asP;have k:j=5:=asP;have d:D=cV aX:=by rw[g.o,k];rfl
 have f:z=aX.length:=by rw[w.o,k];rfl
 replace d:=hid d;replace f:=hid f;clear w g k;refine wk ?_;rw[d.o,f.o];refine aY ?_;simp only[AV.frz,AV.frzL,ado];refine ac ?_ h.o;simp only[AV.refs,AV.refsL,abn,arx]
theorem rC:akF aX:=by refine⟨by decide,λty h=>?_,λty h=>?_⟩;have:aX.all (λt=>decide (t.1.length<=1000))=true:=asR;have:=apF.1 this ty h;simp only[decide_eq_true_eq]at this;unfold bS;omega;have:aX.all (λt=>decide (gV aX t.1=some t))=true:=asR;simpa using apF.1 this ty h
end Go.Proofs.YtdnfjhflkkpokaaGreatDoor.Av
set_option maxRecDepth 100000
namespace Go.Proofs.YtdnfjhflkkpokaaGreatDoor.Av
open Go
variable {d dn tn:List Rdn}{x:aC}
def xX:LSO:=[Ac 8 0,Ak 9]
def xW:LSO:=[Aa 17 3,Aj 18 36 17,Aa 16 18,Ao 19 16,Aq 20 16,Aa 10 19,Aa 11 20]
def xV:LSO:=[Aa 21 11,AB 22 21 0]
def xU:LSO:=[Ac 8 0,Ak 9]
def xT:LSO:=[Aa 23 3,Ah 24 23,Ai 25 24 1,Ac 26 0]
def xS:LSO:=[Al 27 26 25]
def xR:LSO:=[Aa 28 26,Aa 12 28]
def xQ:LSO:=[Aa 29 0,Aa 30 3,Aa 31 12,Cy 32 30 31,As 33 24 29 32,Aa 13 33]
def xP:LSO:=[Aa 34 13,An 35 34 0]
def xO:LSO:=[Aa 37 0,Aa 38 13,As 39 25 37 38,Aa 36 39,Ao 40 36,Aq 41 36,Aa 14 40,Aa 15 41]
def uZ:LSO:=[Aa 42 1,Aa 43 2,Aa 44 14,o1 45 (.call 26 [(tm 42),(tm 43),(tm 44),(.av (.str [])),(iv 1)]),A7 46 45]
def uY:LSO:=[Aa 47 12,An 48 47 0]
def uX:LSO:=[Aa 49 13,Aa 8 49,Ak 9]
def uW:LSO:=[Aa 50 14,Ac 8 0,Aa 9 50]
def uV:LSO:=[Ai 51 26 1,Aa 26 51]
def uU:LSO:=[Ac 8 0,Ak 9]
def iY:aK:=⟨52,(asI xX [] (.seq (asI xW CC (asI xV C4 (asK 22 (.sreg xU [])))) (.seq (asI xT CL (asL 0 (asI xS [] (.seq (asM 27 0) (.seq (.block 1 (asI xR C4 (asI xQ CB (.seq (asI xP C4 (asJ 35 (.exit 1) .skip)) (asI xO CZ (.seq (asI uZ CA (asJ 46 (.exit 1) .skip)) (.seq (asI uY C4 (asK 48 (.sreg uX CD))) (asI uW CD .ret)))))))) (.sreg uV C4)))))) (asI uU [] .ret)))),[(.tmp 8),(.tmp 9)]⟩
attribute [push_cast] xX xW xV xU xT xS xR xQ xP xO uZ uY uX uW uV uU
theorem wg:asN 10=asO iY:=asR
def Qh:LSO:=[Az 4 0,Ak 8]
def Qg:LSO:=[Ak 9]
def Qf:LSO:=[Aa 18 1,Ah 19 18,Ac 20 0]
def Qe:LSO:=[Al 21 20 19]
def Qd:LSO:=[Am 22 2 18 20,Ar 23 2 22,Bo 11,Ap 2 11 23]
def Qc:LSO:=[Ar 25 2 4,Ad 26 0 11,Ab 27 1 26,As 28 45 25 27,Aa 24 28,Ao 29 24,Aq 30 24,By 12,Ap 4 12 29,Aa 13 30]
def Qb:LSO:=[Aa 31 2,Ah 32 31,An 33 32 0,Aa 34 33,.grp none 34 true
 [A6 35 34 3 12,A5 36 34 1 35,Bu 37 34 36]
 38 (tm 37),Aa 14 38]
def Qa:LSO:=[Aa 39 2,Ah 40 39,Ac 41 0]
def P9:LSO:=[Al 42 41 40]
def P8:LSO:=[Am 43 1 39 41,Ab 44 1 43,Aa 16 44]
def KA:LSO:=[Aa 45 14,Aa 46 45,.grp none 46 false
 [Ag 47 46 16,og 48 46 false (.bin .eql (tm 47) (.av (.str [42]))),Ag 49 46 48,.grp (some (46,false)) 49 true
 [A6 50 49 3 12,A5 51 49 1 50,Bu 52 49 51]
 53 (tm 52)]
 54 (tm 53),Aa 55 54,.grp none 55 false
 [Ag 56 55 16,og 57 55 false (.bin .eql (tm 56) (.av (.str [43]))),Ag 58 55 57,.grp (some (55,false)) 58 true
 [A6 59 58 3 12,A5 60 58 1 59]
 61 (tm 60)]
 62 (tm 61),Aa 63 62,.grp none 63 false
 [Ag 64 63 16,AN 65 63 46 64,A3 66 63 0 11,Ay 67 63 1 66,AN 68 63 46 67,BB 69 63 65 68]
 70 (tm 69),Aa 14 70]
def Kz:LSO:=[Ai 71 41 1,Aa 41 71]
def Ky:LSO:=[Aa 72 14,A7 73 72]
def Kx:LSO:=[Ad 74 0 11,Ab 75 1 74,o1 76 (.build [(.str []),(.sl [] 0 (some 0))] [(0,(1,(tm 75)))]),Bo 17,Ap 2 17 76]
def Kw:LSO:=[Aa 77 3,A7 78 77]
def Kv:LSO:=[Ad 79 1 11,Ab 80 1 79,Aj 81 47 80,Ad 82 1 17,Ap 1 82 81]
def Ku:LSO:=[Aa 83 9,Ar 84 2 17,BH 85 84,BZ 86 83 85,Aa 9 86]
def Kt:LSO:=[Ai 87 20 1,Aa 20 87]
def Ks:LSO:=[Aa 88 9,Aa 8 88]
def Ok:aK:=⟨89,(asI Qh [] (asI Qg [] (.seq (asI Qf [] (asL 0 (asI Qe [] (.seq (asM 21 0) (.seq (.block 1 (asI Qd C6 (asI Qc Dj (asI Qb CB (.seq (asI Qa [] (asL 2 (asI P9 [] (.seq (asM 42 2) (.seq (.block 3 (asI P8 C6 (.sdreg KA [.pure,.pure,.pure,.pure,.pure,.pure,(.read 0 0),.pure,.pure,.pure,.pure,.pure,.pure,.pure,.pure,(.read 0 0),.pure,.pure,.pure,.pure,(.read 0 0),.pure,(.read 0 0)] CE))) (.sreg Kz C4)))))) (.seq (asI Ky C4 (asJ 73 (.exit 1) .skip)) (asI Kx C7 (.seq (asI Kw C4 (asJ 78 (.sreg Kv CN) .skip)) (.sreg Ku CA))))))))) (.sreg Kt C4)))))) (asI Ks C4 .ret)))),[(.tmp 8)]⟩
attribute [push_cast] Qh Qg Qf Qe Qd Qc Qb Qa P9 P8 KA Kz Ky Kx Kw Kv Ku Kt Ks
theorem aaq:asN 17=asO Ok:=asR
def F6:LSO:=[Az 6 1,Az 8 3,Ak 10,Ac 11 0,Ak 12]
def F5:LSO:=[Ad 23 1 8,Ab 24 1 23,Aj 25 36 24,Aa 22 25,Ao 26 22,Aq 27 22,Aa 13 26,Aa 14 27]
def F4:LSO:=[Ad 29 2 8,Ab 30 1 29,AJ 31 30 0,Aa 32 31,.grp none 32 false
 [A3 33 32 2 8,Ay 34 32 1 33,AC 35 32 34 2]
 36 (tm 35),Aa 37 36,.grp none 37 false
 [A3 38 37 10 8,Ay 39 37 1 38,Bh 40 37 39 0]
 41 (tm 40),Aa 42 41,.grp none 42 false
 [A3 43 42 11 8,Ay 44 42 1 43,Bh 45 42 44 0]
 46 (tm 45),Aa 28 46]
def F3:LSO:=[Ak 10,Ac 11 2,Ak 12]
def F2:LSO:=[Aa 48 14,AB 49 48 0,Aa 47 49]
def F1:LSO:=[Ak 10,Ac 11 34,Ak 12]
def FZ:LSO:=[Aa 51 0,Aa 52 2,Ad 53 0 8,Ab 54 1 53,Ad 55 1 8,Ab 56 1 55,o1 57 (.call 10 [(tm 51),(tm 52),(tm 54),(tm 56)]),Aa 50 57,Ao 58 50,Aq 59 50,Aa 15 58,
 Aa 16 59]
def FY:LSO:=[Aa 60 15,An 61 60 0]
def FX:LSO:=[Aa 62 16,Ak 10,Ac 11 32,Aa 12 62]
def FW:LSO:=[Ak 17]
def yl:LSO:=[Aa 63 0,Aa 64 15,Ad 65 2 8,Ab 66 1 65,AI 67 23 63 64 66,Ah 68 67,Ac 69 0]
def yj:LSO:=[Al 70 69 68]
def yh:LSO:=[Aa 71 69,Am 72 1 67 69,Ab 73 1 72,Cs 19,Aa 18 71,Ap 1 19 73]
def yg:LSO:=[Ad 74 11 8,Ab 75 1 74,A8 76 75 0,Aa 77 76,.grp none 77 true
 [Ae 78 77 18,og 79 77 true (.bin .quo (tm 78) (iv 100)),A6 80 77 11 8,A5 81 77 1 80,og 82 77 true (.bin .geq (tm 79) (tm 81))]
 83 (tm 82)]
def yf:LSO:=[Aa 84 17,Aa 10 84,Ac 11 3,Ak 12]
def ye:LSO:=[Aa 85 4,o1 86 (.mkfn 52 [(tm 19)]),As 87 51 85 86]
def yd:LSO:=[Aa 89 0,Ab 90 1 19,As 91 25 89 90,Aa 88 91,Ao 92 88,Aq 93 88,Aa 20 92,Aa 21 93]
def yc:LSO:=[Aa 94 2,Ad 95 0 8,Ab 96 1 95,Aa 97 20,o1 98 (.call 26 [(tm 94),(tm 96),(tm 97),(.av (.str [])),(iv 1)]),A7 99 98,Aa 100 99,.grp none 100 false
 [og 101 100 false (.load true 2 (tm 6)),A3 102 100 3 8,og 103 100 false (.load true 5 (tm 102)),Ag 104 100 2,A3 105 100 0 8,Ay 106 100 1 105,Ag 107 100 20,Ag 108 100 21,
 og 109 100 false (.call 28 [(tm 104),(tm 106),(tm 107),(tm 108),(iv 4)]),og 110 100 false (.call 27 [(tm 101),(tm 103),(tm 109)]),Bk 111 100 110 1]
 112 (tm 111)]
def yb:LSO:=[Ad 113 10 8,Ab 114 1 113,A8 115 114 0,Aa 116 115,.grp none 116 true
 [Ae 117 116 17,AE 118 116 117,A6 119 116 10 8,A5 120 116 1 119,B0 121 116 118 120]
 122 (tm 121)]
def x9:LSO:=[Aa 123 17,Aa 10 123,Ac 11 4,Ak 12]
def x8:List (aw×Kd):=
 [AD 124 17,AD 125 20,od 126 (.load true 2 (tm 6)) (.read 0 0),AD 127 2,A9 128 0 8,AA 129 1 128 0 0,AD 130 20,AD 131 21,
 od 132 (.call 28 [(tm 127),(tm 129),(tm 130),(tm 131),(iv 2)]) (.read 0 0),A9 133 8 8,AA 134 1 133 0 0,A9 135 9 8,AA 136 1 135 0 0,
 od 137 (.call 17 [(tm 126),(tm 132),(tm 134),(tm 136)]) (.read 0 0),od 138 (.build [(.sl [] 0 (some 0)),(.sl [] 0 (some 0))] [(0,(1,(tm 125))),(1,(1,(tm 137)))]) .pure,
 od 139 (.bslice false 2 1 [(.sl [] 0 (some 0)),(.sl [] 0 (some 0))] [(0,(2,(tm 138)))]) (.read 0 0)]
def u0:List aw :=
 [⟨(some 140),(.app 1 2 48 [(.sl [] 0 (some 0)),(.sl [] 0 (some 0))] (tm 124) (tm 139)),none⟩,⟨(some 17),(.mv (tm 140)),none⟩]
def xZ:LSO:=[Ai 141 69 1,Aa 69 141]
def xY:LSO:=[Aa 142 17,Aa 10 142,Ac 11 0,Ak 12]
def wu:aK:=⟨143,(asI F6 [] (asI F5 CE (.seq (.block 0 (asI F4 CG (asJ 28 (asI F3 [] .ret) (asI F2 C6 (asK 47 (.sreg F1 [])))))) (asI FZ Dc (.seq (asI FY C4 (asK 61 (.sreg FX CJ))) (asI FW [] (.seq (asI yl Dq (asL 1 (asI yj [] (.seq (asM 70 1) (.seq (.block 2 (asI yh CF (.seq (asI yg CA (asK 83 (.sreg yf CJ))) (.seq (asI ye C6 (asJ 87 (.exit 2) .skip)) (asI yd CI (.seq (.seq (.sdreg yc [.pure,.pure,(.read 0 0),.pure,(.read 0 0),.pure,.pure,(.read 0 0),.pure,(.read 0 0),.pure,.pure,(.read 0 0),.pure,.pure,(.read 0 0)] CE) (asJ 112 (.exit 2) .skip)) (.seq (asI yb CA (asK 122 (.sreg x9 CJ))) (.dregM x8 u0 [true,false,false,false,false,false,false,false,false,false,false,false,false,false,false,false,false,false])))))))) (.sreg xZ C4)))))) (asI xY CJ .ret)))))))),[(.tmp 10),(.tmp 11),(.tmp 12)]⟩
attribute [push_cast] F6 F5 F4 F3 F2 F1 FZ FY FX FW yl yj yh yg yf ye yd yc yb x9 x8 u0 xZ xY
theorem WZ:asN 21=asO wu:=asR
def gf:LSO:=[Af 4]
def gc:LSO:=[Aa 5 0,Aa 6 1,As 7 97 5 6,AL 8 7 0,Aa 4 8]
def dY:aK:=⟨9,(asI gf [] (asI gc CA .ret)),[(.tmp 4)]⟩
attribute [push_cast] gf gc
theorem lT:asN 51=asO dY:=asR
def iu:LSO:=[Ac 4 0]
def ir:LSO:=[Aa 6 0,Ah 7 6,Ac 8 0]
def iq:LSO:=[Al 9 8 7]
def io:LSO:=[Aa 10 8,Aa 5 10]
def im:LSO:=[Aa 11 1,Aa 12 0,Aa 13 5,Am 14 1 12 13,Ab 15 1 14,B1 16 11 15]
def il:LSO:=[Aa 17 5,Aa 4 17]
def ik:LSO:=[Ai 18 8 1,Aa 8 18]
def ij:LSO:=[Ac 4 (-1)]
def ff:aK:=⟨19,(asI iu [] (.seq (asI ir CD (asL 0 (asI iq [] (.seq (asM 9 0) (.seq (.block 1 (asI io C4 (asI im CB (asK 16 (.sreg il C4))))) (.sreg ik C4)))))) (asI ij [] .ret))),[(.tmp 4)]⟩
attribute [push_cast] iu ir iq io im il ik ij
theorem pc:asN 97=asO ff:=asR
attribute [push_cast] iY Ok dY ff
variable {α:Type}
structure aeN(l:List (Ent α)):Prop where
 ok:∀x∈l,OkD x.nm
 by_:∀a∈l,∀b∈l,NK a.nm=NK b.nm->a=b
 ne:∀x∈l,x.nm≠[]
theorem TOk.nms{suf:List Rdn}{last:Int}{l:List (Ent α)}(h:TOk suf last l):aeN l:=⟨h.ok,λa d b c e=>h.byN d c e,λx f e=>h.inv.ne (gM f) (Tl.2 e)⟩
def Za(P:List Rdn->Bool)(d:List Rdn)(best:List Rdn)(l:List (Ent α)):List Rdn:=l.foldl (λb x=>if(cC d x.nm=true/\b.length<x.nm.length)/\P x.nm=true then x.nm else b) best
def J7(P:List Rdn->Bool)(l:List (Ent α))(d:List Rdn):Int×List Rdn:=if(Za P d [] l).length=d.length then(bC l d,[])else(0,Za P d [] l)
def wQ(P:List Rdn->Bool)(l:List (Ent α)):Bool->List Rdn->Int×List Rdn
 |_,[]=>(0,[])
 |b,r::s=>match atE l (r::s)with|some x=>if P x.nm=true then(if b then(x.id,[])else(0,x.nm))else wQ P l false s|none=>wQ P l false s
theorem agW(P:List Rdn->Bool)(d a:List Rdn)(x:Ent α)(l:List (Ent α)):Za P d a (x::l)=Za P d (if(cC d x.nm=true/\a.length<x.nm.length)/\P x.nm=true then x.nm else a) l:=rfl
theorem Tq(P:List Rdn->Bool)(d:List Rdn):∀(l:List (Ent α)) (a:List Rdn),a.length<=(Za P d a l).length/\(∀x∈l,cC d x.nm=true->P x.nm=true->x.nm.length<=(Za P d a l).length)/\(Za P d a l=a\/∃x∈l,cC d x.nm=true/\P x.nm=true/\Za P d a l=x.nm)
 |[],a=>⟨apt _,λ_ h=>absurd h aqq,.inl rfl⟩
 | x::l,a=>by
   rw[agW];by_cases b:(cC d x.nm=true/\a.length<x.nm.length)/\P x.nm=true
   .obtain⟨h1,h2,h3⟩:=Tq P d l x.nm
    grind
   .obtain⟨h1,h2,h3⟩:=Tq P d l a
    grind
theorem aeN.fnd{l:List (Ent α)}(h:aeN l){x:Ent α}(a:x∈l)(b:OkD d)(e:NK x.nm=NK d):atE l d=some x:=by
 unfold atE;rw[if_pos b];cases hf:l.find? (λx=>decide (NK x.nm=NK d))with
 |none=>exact absurd e (by simpa using aq2.1 hf x a)
 |some y=>rw[h.by_ y (arl hf) x a (by rw[e];simpa using arm hf)]
theorem aeN.und{l:List (Ent α)}(h:aeN l){x:Ent α}(b:x∈l)(c:cC d x.nm=true)(a:x.nm.length=d.length):bC l d=x.id:=by obtain⟨f,_,e⟩:=cD.1 c;have:=h.fnd b f (e.eq_of_length (by rw[bD,bD,a]));unfold bC;rw[this]
theorem abk{P:List Rdn->Bool}{l:List (Ent α)}(h:aeN l):∀(d:List Rdn) (b:Bool),OkD d->(wQ P l b d=(0,[])/\∀x∈l,P x.nm=true->¬NK x.nm <:+ NK d) \/
  ∃x∈l,P x.nm=true/\NK x.nm <:+ NK d/\(wQ P l b d=if b=true/\x.nm.length=d.length then(x.id,[])else(0,x.nm))/\∀y∈l,P y.nm=true->NK y.nm <:+ NK d->y.nm.length<=x.nm.length
 |[],b,_=>.inl ⟨rfl,λx f _ g=>h.ne x f (Tl.1 (List.suffix_nil.1 g))⟩
 | r::d,b,hd=>by
   have o:OkD d:=OkD.app (c:=[r]) hd;have low:(∀x∈l,P x.nm=true->NK x.nm≠NK (r::d))->wQ P l b (r::d)=wQ P l false d->(wQ P l b (r::d)=(0,[])/\∀x∈l,P x.nm=true->¬NK x.nm <:+ NK (r::d)) \/
     ∃x∈l,P x.nm=true/\NK x.nm <:+ NK (r::d)/\(wQ P l b (r::d)=if b=true/\x.nm.length=(r::d).length then(x.id,[])else(0,x.nm))/\∀y∈l,P y.nm=true->NK y.nm <:+ NK (r::d)->y.nm.length<=x.nm.length:=by
    intro i t;rw[t];have k:∀x∈l,P x.nm=true->NK x.nm <:+ NK (r::d)->NK x.nm <:+ NK d:=λx f a g=>by
     rcases List.suffix_cons_iff.1 (show NK x.nm <:+ dy true r::NK d from g)with e|e
     .exact absurd e (i x f a)
     omega
    rcases abk h d false o with⟨m,p⟩|⟨x,f,a,m,p,q⟩
    .exact .inl ⟨m,λx f a g=>p x f a (k x f a g)⟩
    .have:=m.length_le;rw[bD,bD]at this;refine .inr ⟨x,f,a,m.trans (arC _ _),?_,λy j a g=>q y j a (k y j a g)⟩
     grind
   cases hf:atE l (r::d)with
   | some x =>
     obtain⟨_,f,e⟩:=cQ hf;by_cases a:P x.nm=true
     .have hlen:x.nm.length=(r::d).length:=(by have:=congrArg List.length e;rwa[bD,bD]at this);refine .inr ⟨x,f,a,by rw[e];exact arB _,?_,λy j _ g=>?_⟩
      .rw[wQ,hf];simp only;rw[if_pos a];simp only[hlen,and_true]
      .have:=g.length_le;rw[bD,bD]at this;omega
     .refine low (λy j n s=>a ?_) (by rw[wQ,hf];simp only;rw[if_neg a]);rw[h.by_ x f y j (by rw[e,s])];exact n
   | none =>
     have i:=tJ.1 hf hd;exact low (λx f _=>i x f) (by rw[wQ,hf])
theorem ak3{P:List Rdn->Bool}{l:List (Ent α)}(h:aeN l)(s:OkD d):wQ P l true d=J7 P l d:=by
 obtain⟨w,v,q⟩:=Tq P d l [];unfold J7;rcases abk h d true s with⟨f,p⟩|⟨x,a,o,f,p,t⟩;rw[f];have n:Za P d [] l=[]:=by rcases q with e|⟨y,g,i,o,e⟩;omega;exact absurd (cD.1 i).2.2 (p y g o)
 rw[n];split;rename_i u;have j:d=[]:=by simpa using u.symm
 subst j;unfold bC;cases hf:atE l ([]:List Rdn)with
 |none=>rfl
 | some x =>
   obtain⟨_,a,e⟩:=cQ hf;exact absurd (Tl.1 (by rw[e];rfl)) (h.ne x a)
 rfl;have i:=cD.2 ⟨s,h.ok x a,f⟩;have c:=v x a i o;have n:Za P d [] l=x.nm:=by rcases q with e|⟨y,g,k,m,e⟩;simp_all;rw[e]at c⊢;have b:=(cD.1 k).2.2;have r:=t y g m b;have:NK x.nm <:+ NK y.nm:=Ww f b (by rw[bD,bD];exact c);rw[h.by_ x a y g (this.eq_of_length (by rw[bD,bD];omega))]
 rw[n,p];simp only[true_and];split;rename_i r;rw[h.und a i r];rfl
def opM(ts:List Typ)(n:List UInt8):Bool:=((gV ts n).getD ([],0,false,false)).2.2.2
def Y8(o:Bool)(nm n:List UInt8):Bool:=(decide (n=[42]) && !o) ||((decide (n=[43])&&o) ||decide (ak n=ak nm))
def adh(ts:List Typ)(names:List (List UInt8))(a:Atr):Bool:=(decide (names=[]) && !opM ts a.1) ||names.any (Y8 (opM ts a.1) a.1)
def ki(ts:List Typ)(names:List (List UInt8))(tonly:Bool)(l:List Atr):List Atr:=(l.filter (adh ts names)).map λa=>(a.1,if tonly then[]else a.2)
abbrev Fnd:=List Rdn×List Atr
variable {α:Type}
def WN(ts:List Typ)(P:List Rdn->List UInt8->Int->Bool)(T:List Atr->Int)(names:List (List UInt8))(tonly:Bool)(x:Ent (List Atr)):Option Fnd :=
 if(P x.nm [] 1&&decide (T (x.av.filter λa=>P x.nm a.1 4)=1))=true then some (x.nm,ki ts names tonly (x.av.filter λa=>P x.nm a.1 2))else none
def srL(f:α->Option Fnd)(time size:Int):Nat->List Fnd->List α->List Fnd×Int
 |_,out,[]=>(out,0)
 | n,out,x::l=>if 0<time/\time<=((n / 100:Nat):Int) then (out,3) else
   match f x with
   |none=>srL f time size (n+1) out l
   |some y=>if 0<size/\(out.length:Int)=size then(out,4)else srL f time size (n+1) (out++[y]) l
def tR(ts:List Typ)(l:List (Ent (List Atr)))(P:List Rdn->List UInt8->Int->Bool)(T:List Atr->Int)(base:List Rdn)(scope:Int)(names:List (List UInt8))(tonly:Bool)(size time:Int):List Fnd×Int×List Rdn :=
 if scope<0\/2<scope\/size<0\/time<0 then([],2,[])else
 if ¬OkD base then([],34,[])else
 if(J7 (P · [] 1) l base).1=0 then([],32,(J7 (P · [] 1) l base).2)else
 ((srL (WN ts P T names tonly) time size 0 [] (match o7 l (J7 (P · [] 1) l base).1 with|some a=>scL l a scope|none=>[])).1,(srL (WN ts P T names tonly) time size 0 [] (match o7 l (J7 (P · [] 1) l base).1 with|some a=>scL l a scope|none=>[])).2,[])
set_option maxHeartbeats 8000000
set_option maxRecDepth 100000
theorem adu{l:List aC}(h:o7 l x.id=some x):scT l x.id 2=(scL l x 2).map (·.id):=by unfold scT;rw[h];exact if_neg asP
theorem YR{suf:List Rdn}{last:Int}{l:List aC}(d:TOk suf last l){y:aC}(g:atE l dn=some x):y∈scL l x 2↔y∈l/\cC y.nm dn=true:=by
 obtain⟨f,b,e⟩:=cQ g;unfold scL;rw[List.Perm.mem_iff (aq8 _ _),ap8];refine and_congr_right λh=>?_
 unfold iE;rw[decide_eq_true (rfl:(2:Int)=2),ari,arJ,cD,cD,e];exact⟨λ⟨a,_,c⟩=>⟨a,f,c⟩,λ⟨a,_,c⟩=>⟨a,d.ok x b,c⟩⟩
theorem ago(l:List aC)(x:aC)(s:Int):(scL l x s).length<=l.length:=by unfold scL;rw[asw];exact aqL _ _
theorem aml{suf:List Rdn}{last:Int}{l:List aC}(b:TOk suf last l)(c:atE l dn=some x):afW l dn tn=(scL l x 2).any λy => !decide (OkD (iB y.nm dn.length tn)):=by rw[arS,afW,aqZ,aqZ];constructor;rintro⟨y,a,h⟩;rw[apw]at h;exact⟨y,(YR b c).2 ⟨a,h.1⟩,h.2⟩;rintro⟨y,a,h⟩;obtain⟨e,d⟩:=(YR b c).1 a;exact⟨y,e,by rw[apw];exact⟨d,h⟩⟩
theorem am3{suf:List Rdn}{last:Int}{l:List aC}(p:TOk suf last l)(a6:l.length<=1100000){L:List Blk}{iv mn mi:Nat}{nb bn:Int->Nat}{ck ci:Nat}{rs:List TKy}(B:b9 L iv mn mi nb bn ck ci rs suf last l){k:Int}{v:AV}(hx:atE l dn=some x)(V:dnB tn){K:apr}(h:K (.int .i64 (acz suf l x.id dn tn)) L):
  apq 124 [.ptr iv 0,.int .i64 x.id,.agg [.int .i64 k,dnA dn,dnA tn,v]] L K:=by
 obtain⟨hd,a5,bi⟩:=cQ hx;have g:=p.sok.m.b;have f:=hd.m.b;have hv:=B.v;have a1:iv<L.length:=(aps.1 hv).1;have av:∀X:List Blk,(L++X)[iv]?=some (.cells [dnA suf,.lmap mn,.lmap mi,.int .i64 last]):=λX=>by rw[apx a1];exact hv
 obtain⟨⟨ps,pe⟩,N⟩:∃q,prS tn=q:=⟨_,rfl⟩;have kk1:Hid (Ctr Tryz.prog 36 [dnA tn] (.tup [.str ps,.int .i64 pe])):=@hid _ (by intro L K q;exact lM V.1 V.2 (by rw[N];exact q));have kk2:Hid (∀{v:Nat}{L:List Blk}{K:apr},K (.bool (kH dn suf)) L->apq 123 [.ptr v 0,dnA dn,dnA suf] L K):=@hid _ (by intro v L K q;exact agc f g q);have H:OkD tn↔pe=0:=by unfold OkD;rw[N]
 unfold acz at h;by_cases c1:kH dn suf=true;rw[if_pos c1]at h;rw[c1]at kk2;replace h:=hid h;clear B N H f g;refine apo b7 ?_;exact ac rfl h.o;rw[if_neg c1]at h;rw[asx.2 c1]at kk2;by_cases c2:pe=0;rotate_left;rw[if_pos (.inl λc=>c2 (H.1 c))]at h;replace h:=hid h;clear B N H f g;refine apo b7 ?_;exact ac rfl h.o;have J:=H.2 c2;have a7:=J.len;subst c2;by_cases c3:tn=[];rw[if_pos (.inr c3)]at h;replace h:=hid h;subst c3;clear B N H f g;refine apo b7 ?_;exact ac rfl h.o;rw[if_neg (λc=>c.elim (λc=>c J) c3)]at h;have bb:¬(tn.length:Int)=0:=λc=>c3 (aqc.1 asP)
 have a_:(1:Int)<=(tn.length:Int):=asP;have al:tn.tail.length=tn.length-1:=arc;have A:List.take (tn.length-1) (List.drop 1 (tn.map aq))=tn.tail.map aq:=by rw[asa,List.map_tail,ap2 asQ]
 have a0:=J.tail;have kk3:Hid (∀{c:Option Nat}{L:List Blk}{K:apr},K (.bool (cC tn.tail dn)) L->apq 62 [.sl (List.take (tn.length-1) (List.drop 1 (tn.map aq))) (tn.length-1) c,dnA dn] L K):=@hid _ (by intro c L K q;rw[A,<- al];exact Tv a0.m.b f q)
 have kf:Hid (∀{c:Option Nat}{L':List Blk}{K:apr}(d:List Rdn) (X:List Blk),dnB d->K (.int .i64 (bC l d)) (L++X)->apq 24 [.ptr iv 0,.sl (d.map aq) d.length c] (L++X) K):=@hid _ (by intro c L' K d X a4 q;exact tQ a4 p (B.app X) q)
 have kk4:Hid (∀{c:Option Nat}{X:List Blk}{K:apr},K (.int .i64 (bC l tn.tail)) (L++X)->apq 24 [.ptr iv 0,.sl (List.take (tn.length-1) (List.drop 1 (tn.map aq))) (tn.length-1) c] (L++X) K):=@hid _ (by intro c X K q;rw[A,<- al];exact kf.o (L':=L) _ X a0.m.b q)
 by_cases c4:cC tn.tail dn=true;rw[if_pos c4]at h;rw[c4]at kk3;replace h:=hid h;clear B N H f g kf kk4 A;refine apo b7 ?_;exact ac rfl h.o;rw[if_neg c4]at h;rw[asx.2 c4]at kk3;by_cases c5:atE l tn.tail=none;rw[if_pos c5]at h;rw[p.find0.2 c5]at kk4;replace h:=hid h;clear B N H f g kf A;refine apo b7 ?_;exact ac rfl h.o;rw[if_neg c5]at h;have a2:¬bC l tn.tail=0:=λc=>c5 (p.find0.1 c)
 have kk5:Hid (∀{X:List Blk}{K:apr},K (.int .i64 (bC l tn)) (L++X)->apq 24 [.ptr iv 0,dnA tn] (L++X) K):=@hid _ (by intro X K q;exact kf.o (L':=L) _ X J.m.b q)
 obtain⟨z,hz⟩:=apl (bC l tn.tail);rw[hz]at kk4 a2;have R:afg l x.id tn=(decide (0<bC l tn)&&decide (bC l tn≠x.id)):=by
  unfold afg bC;cases hq:atE l tn with
  |none=>simp
  | some y =>
    have:=(p.ids y (cQ hq).2.1).1;simp only;rw[decide_eq_true (by omega:0<y.id),ap0]
 rw[R]at h;obtain⟨w,hw⟩:=apl (bC l tn);rw[hw]at kk5 h;obtain⟨xi,T⟩:=apl (x.id);rw[T]at h⊢;by_cases c6:0<w/\w≠xi;obtain⟨c6,c7⟩:=c6;have a8:w>0:=c6;rw[if_pos (by rw[decide_eq_true c6,decide_eq_true c7];rfl)]at h;replace h:=hid h;clear B N H f g kf A;refine apo b7 ?_;exact ac rfl h.o;rw[if_neg (by intro c;rw[apw,decide_eq_true_eq,decide_eq_true_eq]at c;exact c6 c)]at h
 have c8:w<=0\/w=xi:=asP;rw[aml p hx]at h;have ap:scT l xi 2=(scL l x 2).map (·.id):=by rw[<- T];exact adu (p.ent a5)
 have kk6:Hid (∀{X:List Blk}{K:apr},K (.sl (((scL l x 2).map (·.id)).map (AV.int .i64)) (scL l x 2).length none) (L++X)->apq 23 [.ptr iv 0,.int .i64 xi,.int .i64 2] (L++X) K):=@hid _ (by intro X K q;refine Y9 p a6 (B.app X) ?_;rw[ap,apQ];exact q)
 obtain⟨a,S⟩:=apl (scL l x 2);have ar:=ago l x 2;have s:=λy=>(YR (y:=y) p hx).1
 rw[S]at kk6 h ar s;replace s:=hid s;replace h:=hid h;replace B:=hid B;replace p:=hid p;clear N H f g kf A ap S R hw hz T;have c9:(¬0<w/\¬w>0)\/(0<w/\w>0/\xi=w):=asP;clear c8 c6;have a':=hd.len;rcases c9 with⟨c9,a3⟩|⟨c9,a3,rfl⟩
 all_goals
  refine apo b7 ?_;refine aj (λm T' L'=>∃j:Nat,m=a.length-j/\j<=a.length/\Hid (∀i,i<j->OkD (iB (a.getD i default).nm dn.length tn))/\T'=[(68,.int .i64 (j:Int)),(67,.int .i64 a.length),(66,.sl ((a.map (·.id)).map (AV.int .i64)) a.length none),(5,.ptr L.length 0),(0,.ptr iv 0)]/\L'=L++[.cells [.int .i64 k,dnA dn,dnA tn,v]]) asT ⟨0,rfl,apv _,hid (λi hi=>absurd hi (arE _)),rfl,rfl⟩ ?_;rintro _ _ _ ⟨j,rfl,hj,hI,rfl,rfl⟩;by_cases M:j<a.length
  .have g1:(j:Int)<(a.length:Int):=asP;have g2:=apn j asP;obtain⟨y,U⟩:=apl (a.getD j default);have Q:y∈a:=(by rw[<- U];simp[M]);obtain⟨G,Y⟩:=s.o y Q;have e1:((a.map (·.id)).map (AV.int .i64)).getD j .undef=.int .i64 y.id:=(by rw[<- U];simp[M]);have e2:j<((a.map (·.id)).map (AV.int .i64)).length:=(by simpa using M);rcases(B.o.app [.cells [.int .i64 k,dnA dn,dnA tn,v]]).node y.id with⟨f1,_⟩|⟨x',n,f1,_,_,f2,f3⟩
   .rw[p.o.ent G]at f1;cases f1
   rw[p.o.ent G]at f1;cases f1;unfold nC at f3;have D:=p.o.ok y G;have F:dn.length<=y.nm.length:=by have:=(cD.1 Y).2.2.length_le;rwa[bD,bD]at this
   have ai:=D.len;have an:=(B.o.app [.cells [.int .i64 k,dnA dn,dnA tn,v]]).n;obtain⟨yi,W⟩:=apl (y.id);obtain⟨yn,E⟩:=apl (y.nm);rw[W]at e1 f2 f3;rw[E]at f3 F ai D;obtain⟨q,hq⟩:=apl (yn.length-dn.length);have w1:IntKind.i64.wrap ((yn.length:Int)-(dn.length:Int))=(q:Int):=(by rw[ae asP asP];omega);have w2:(q:Int)<=(yn.length:Int):=asP;have a9:bT .int (.int .i64 yi)=true:=rfl;obtain⟨Z,hZ⟩:=apl (iB yn dn.length tn);have I:yn.take q++tn=Z:=(by rw[<- hZ,<- hq];rfl);have t:dnB Z:=by rw[<- I];refine⟨by simp;omega,λr hr=>?_⟩;rcases apy.1 hr with hr|hr;exact D.m.b.2 r (asd hr);exact V.2 r hr
   have kk7:Hid (∀{c:Option Nat}{L:List Blk}{K:apr},K (dnA Z) L->apq 59 [dnA tn,.sl (List.take q (yn.map aq)) q c] L K):=@hid _ (by intro c L K u;rw[<- asb];exact agE I (by rw[aqK];omega) rfl t.1 t.2 u)
   obtain⟨⟨zs,ze⟩,O⟩:∃u,prS Z=u:=⟨_,rfl⟩;have kk1:Hid (Ctr Tryz.prog 36 [dnA Z] (.tup [.str zs,.int .i64 ze])):=@hid _ (by intro L K u;exact lM t.1 t.2 (by rw[O];exact u));have pz:OkD Z↔ze=0:=(by unfold OkD;rw[O]);by_cases ad:ze=0
   .have hI':=hid (λi (hi:i<j+1)=>show OkD (iB (a.getD i default).nm dn.length tn)from by
     by_cases e:i=j
     .subst e;rw[U,E,hZ];exact pz.2 ad
     .exact hI.o i asP)
    subst ad;clear hI U Q G Y D F W E hq hZ I t O pz kk2 kk3 kk4 kk5 kk6;refine wk ?_;exact asU asP asS ⟨j+1,rfl,M,hI',rfl,rfl⟩
   .have hbad:(a.any λy => !decide (OkD (iB y.nm dn.length tn)))=true:=aqZ.2 ⟨y,Q,by rw[E,hZ,decide_eq_false (λc=>ad (pz.1 c))];rfl⟩;have P:=h.o;rw[if_pos hbad]at P;replace P:=hid P;clear hI U Q G Y D F W E hq hZ I t O pz kk2 kk3 kk4 kk5 kk6 hbad;refine wk ?_;exact ac rfl P.o
  .have hje:j=a.length:=asP;subst hje;have g1:¬(a.length:Int)<(a.length:Int):=asP;have C:¬(a.any λy => !decide (OkD (iB y.nm dn.length tn)))=true:=λc=>by obtain⟨y,U,hb⟩:=aqZ.1 c;obtain⟨i,hi,rfl⟩:=aqn.1 U;have:=hI.o i hi;rw[show a.getD i default=a[i]by simp[hi]]at this;rw[decide_eq_true this]at hb;cases hb
   have P:=h.o;rw[if_neg C]at P;replace P:=hid P;clear hI C;refine wk ?_;exact ac rfl P.o
theorem Tt{suf:List Rdn}{last:Int}{l:List aC}(w:TOk suf last l)(Z:l.length<=1100000){L:List Blk}{iv mn mi:Nat}{nb bn:Int->Nat}{ck ci:Nat}{rs:List TKy}(j:b9 L iv mn mi nb bn ck ci rs suf last l){k:Int}{v:AV}(g:dnB dn)(U:dnB tn){K:apr}(h:K (.int .i64 (fY suf l k dn tn)) L):
  apq 78 [.ptr iv 0,.agg [.int .i64 k,dnA dn,dnA tn,v]] L K:=by
 have i:=w.sok.m.b;have hv:=j.v;have hn:=j.n;have R:iv<L.length:=(aps.1 hv).1;have P:mn<L.length:=(aps.1 hn).1;have av:∀X:List Blk,(L++X)[iv]?=some (.cells [dnA suf,.lmap mn,.lmap mi,.int .i64 last]):=λX=>by rw[apx R];exact hv
 have an:∀X:List Blk,(L++X)[mn]?=some (.map (l.map (gL nb bn)) ck):=λX=>by rw[apx P];exact hn
 have a5:(l.map (gL nb bn)).length=l.length:=apQ _;obtain⟨⟨ps,Y⟩,s⟩:∃q,prS dn=q:=⟨_,rfl⟩;have kk1:Hid (Ctr Tryz.prog 36 [dnA dn] (.tup [.str ps,.int .i64 Y])):=@hid _ (by intro L K q;exact lM g.1 g.2 (by rw[s];exact q));have kk2:Hid (∀{v:Nat}{L:List Blk}{K:apr},K (.bool (kH dn suf)) L->apq 123 [.ptr v 0,dnA dn,dnA suf] L K):=@hid _ (by intro v L K q;exact agc g i q);have t:OkD dn↔Y=0:=by unfold OkD;rw[s]
 have kk3:Hid (∀{X:List Blk}{K:apr},K (.int .i64 (bC l dn)) (L++X)->apq 24 [.ptr iv 0,dnA dn] (L++X) K):=@hid _ (by intro X K q;exact tQ g w (j.app X) q)
 obtain⟨z,p⟩:=apl (bC l dn);have f:=w.find0 (d:=dn);rw[p]at f kk3;unfold fY at h;by_cases u:k<1\/4<k;rw[if_pos u]at h;have d1:¬k=1:=asP;have d2:¬k=2:=asP;have d3:¬k=3:=asP;have d4:¬k=4:=asP;replace h:=hid h;clear j s t g i f p;refine apo bj ?_;exact ac rfl h.o;rw[if_neg u]at h;by_cases S:k=1
 .subst S;rw[if_pos rfl]at h;by_cases Q:Y=0;rotate_left;rw[if_pos (λc=>Q (t.1 c))]at h;replace h:=hid h;clear j s t g i f p u;refine apo bj ?_;exact ac rfl h.o;have G:=t.2 Q;subst Q;rw[if_neg (λc=>c G)]at h;by_cases c2:z=0;rotate_left;rw[if_pos (λc=>c2 (f.2 c))]at h;have V:0<z:=by
   cases D:atE l dn with
   |none=>exact absurd (f.2 D) c2
   | some y =>
     have:=(w.ids y (cQ D).2.1).1;rw[<- p];unfold bC;rw[D];simp only;omega
  have a1:z>0:=V;replace h:=hid h;clear j s t g i f p u;refine apo bj ?_;exact ac rfl h.o;subst c2;rw[if_neg (λc=>c (f.1 rfl))]at h;have a2:=G.len;obtain⟨sm,al⟩:=apl (kH dn suf);rw[al]at h kk2;have a:∀{h4:K (.int .i64 (if 4096<=l.length then 80 else 0)) L},(4096<=l.length/\K (.int .i64 80) L)\/(¬4096<=l.length/\K (.int .i64 0) L):=λ{h4}=>by by_cases c:4096<=l.length;rw[if_pos c]at h4;exact .inl ⟨c,h4⟩;rw[if_neg c]at h4;exact .inr ⟨c,h4⟩
  cases sm with
  | true =>
    rw[if_neg (λc=>by cases c.1)]at h;rcases a (h4:=h)with⟨c,h⟩|⟨c,h⟩
    .have c':(4096:Int)<=(l.length:Int):=asP;have F:(l.length:Int)≥4096:=c';replace h:=hid h;clear a j s t g i f p u;refine apo bj ?_;exact ac rfl h.o
    .have c':¬(4096:Int)<=(l.length:Int):=asP;have F:¬(l.length:Int)≥4096:=c';replace h:=hid h;clear a j s t g i f p u;refine apo bj ?_;exact ac rfl h.o
  | false =>
    by_cases c3:dn=[]
    .rw[if_pos ⟨rfl,.inl c3⟩]at h;subst c3;replace h:=hid h;clear a j s t g i f p u;refine apo bj ?_;exact ac rfl h.o
    have a4:¬(dn.length:Int)=0:=λc=>c3 (aqc.1 asP)
    have a3:(1:Int)<=(dn.length:Int):=asP;have ar:dn.tail.length=dn.length-1:=arc;have C:List.take (dn.length-1) (List.drop 1 (dn.map aq))=dn.tail.map aq:=(by rw[asa,List.map_tail,ap2 asQ]);have kk4:Hid (∀{c:Option Nat}{X:List Blk}{K:apr},K (.int .i64 (bC l dn.tail)) (L++X)->apq 24 [.ptr iv 0,.sl (List.take (dn.length-1) (List.drop 1 (dn.map aq))) (dn.length-1) c] (L++X) K):=@hid _ (by intro c X K q;rw[C,<- ar];exact tQ G.tail.m.b w (j.app X) q)
    have r:=w.find0 (d:=dn.tail);obtain⟨q,D⟩:=apl (bC l dn.tail);rw[D]at r kk4;by_cases c4:q=0
    .rw[if_pos ⟨rfl,.inr (r.1 c4)⟩]at h;subst c4;replace h:=hid h;clear a j s t g i f p u C r D;refine apo bj ?_;exact ac rfl h.o
    rw[if_neg (λc=>c.2.elim c3 λc=>c4 (r.2 c))]at h;rcases a (h4:=h)with⟨c,h⟩|⟨c,h⟩
    .have c':(4096:Int)<=(l.length:Int):=asP;have F:(l.length:Int)≥4096:=c';replace h:=hid h;clear a j s t g i f p u C r D;refine apo bj ?_;exact ac rfl h.o
    .have c':¬(4096:Int)<=(l.length:Int):=asP;have F:¬(l.length:Int)≥4096:=c';replace h:=hid h;clear a j s t g i f p u C r D;refine apo bj ?_;exact ac rfl h.o
 rw[if_neg S]at h;have E:k=2\/k=3\/k=4:=asP;cases hx:atE l dn with
 | none =>
   rw[hx]at h;simp only at h;have c2:z=0:=f.2 hx;subst c2;replace h:=hid h;clear j s t g i f p u S;rcases E with rfl|rfl|rfl
   all_goals
    refine apo bj ?_;exact ac rfl h.o
 | some x =>
   rw[hx]at h;simp only at h;obtain⟨hd,B,a0⟩:=cQ hx;have ai:z=x.id:=(by rw[<- p];unfold bC;rw[hx]);have ap:=(w.ids x B).1;have kk5:Hid (∀{X:List Blk}{K:apr},K (.int .i64 (acz suf l x.id dn tn)) (L++X)->apq 124 [.ptr iv 0,.int .i64 x.id,.agg [.int .i64 k,dnA dn,dnA tn,v]] (L++X) K):=@hid _ (by intro X K q;exact am3 w Z (j.app X) hx U q)
   have W:bT .int (.int .i64 x.id)=true:=rfl;rcases j.node x.id with⟨N,_⟩|⟨x',n,N,_,_,f2,T⟩
   .rw[w.ent B]at N;cases N
   rw[w.ent B]at N;cases N;unfold nC at T;have O:nb x.id<L.length:=(aps.1 T).1;have ad:∀X:List Blk,(L++X)[nb x.id]?=some (.cells [dnA x.nm,.sl (aG (pth x)) x.nm.length none,atR x.av,.int .i64 (bF (d8 l) (NK x.nm):Nat)]):=λX=>by rw[apx O];exact T
   subst ai;obtain⟨xi,H⟩:=apl (x.id);obtain⟨M,J⟩:=apl (bF (d8 l) (NK x.nm));rw[H]at kk3 kk5 W f2 ad ap h;rw[J]at ad h;obtain⟨mv,I⟩:=apl (acz suf l xi dn tn);rw[I]at kk5 h;have g0:¬xi=0:=asP;have A:(M≠0/\k=2/\K (.int .i64 66) L)\/(M=0/\k=2/\K (.int .i64 0) L)\/(k=3/\K (.int .i64 0) L)\/(k=4/\K (.int .i64 mv) L):=by
    rcases E with rfl|rfl|rfl
    .by_cases c:M=0
     .rw[if_pos rfl,if_neg (λe=>e c)]at h;exact .inr (.inl ⟨c,rfl,h⟩)
     .rw[if_pos rfl,if_pos c]at h;exact .inl ⟨c,rfl,h⟩
    .rw[if_neg (by decide),if_pos rfl]at h;exact .inr (.inr (.inl ⟨rfl,h⟩))
    .rw[if_neg (by decide),if_neg (by decide)]at h;exact .inr (.inr (.inr ⟨rfl,h⟩))
   clear h j s t g i f p u S E B a0 H J I hx T;rcases A with⟨c,rfl,h⟩|⟨c,rfl,h⟩|⟨rfl,h⟩|⟨rfl,h⟩
   .have Q:(0:Int)<(M:Int):=asP;have c2:(M:Int)>0:=Q;replace h:=hid h;refine apo bj ?_;exact ac rfl h.o
   .subst c;replace h:=hid h;refine apo bj ?_
    all_goals exact ac rfl h.o
   .replace h:=hid h;refine apo bj ?_;exact ac rfl h.o
   .replace h:=hid h;refine apo bj ?_;exact ac rfl h.o
section
variable {L:List Blk}{iv mn mi it:Nat}{nb bn:Int->Nat}{ck ci:Nat}{rs:List TKy}{suf:List Rdn}{last:Int}{l lk:List aC}{kd:Int->Int}
theorem bY.kds(h:bY L iv mn mi nb bn ck ci rs suf last l lk kd){a:Int->Int}(e:∀x∈l,a x.id=kd x.id):bY L iv mn mi nb bn ck ci rs suf last l lk a :=
 ⟨h.v,h.n,h.i,λx b=>by rw[h.nd x b];unfold dJ;rw[e x b],h.inj,h.keys,h.mem,h.bnd,h.blt⟩
theorem bY.noIt(h:bY L iv mn mi nb bn ck ci rs suf last l lk kd)(a:L[it]?=some (.cells [.ptr iv 0])):¬OfT iv mn mi nb l it:=by rintro(e|e|e|⟨x,b,e⟩);rw[e,h.v]at a;simp at a;rw[e,h.n]at a;simp at a;rw[e,h.i]at a;simp at a;rw[e,h.nd x b]at a;simp[dJ]at a
theorem OL{d:List Rdn}{cap:Option Nat}{b:Int}(o:dnB d)(g:d≠[])(p:TOk suf last lk)(a:∀x∈lk,∃y∈l,y.id=x.id)(m:∀x∈l,1<=x.id)(j:L[it]?=some (.cells [.ptr iv 0]))(c:bY L iv mn mi nb bn ck ci rs suf last l lk kd)(n : -1<=b/\b<=1)(k:∀i,-10000000<=kd i/\kd i<=10000000){K:apr}(h:∀L',bY L' iv mn mi nb bn ck ci rs suf last l lk (λi=>if i=bC lk d.tail then kd i+b else kd i)->aZ (OfT iv mn mi nb l) L L'->K (.tup []) L'):
  apq 80 [.ptr it 0,.sl (d.map aq) d.length cap,.int .i64 b] L K:=by
 refine ajm o g p a j c n k (λq=>?_) (λx f e=>?_);refine h L (c.kds λx f=>?_) (aZ.refl L)
 grind
 refine h _ ?_ (aZ.set L (.inr (.inr (.inr ⟨x,f,rfl⟩))) _);rw[<- e];exact c.kid f b
theorem b9.added(f:b9 L iv mn mi nb bn ck ci rs suf last l)(N:TOk suf last l)(u:mn≠mi)(m:L[it]?=some (.cells [.ptr iv 0])){dn:List Rdn}(C:OkD dn)(H:∀x∈l,NK x.nm≠NK dn)(v:List Atr)(h a0 X:Blk)(A B:List Blk)(w:A=(L.set iv (.cells [dnA suf,.lmap mn,.lmap mi,.int .i64 (last+1)])).set mn (.map ((l.map (gL nb bn))++[(.int .i64 (last+1),.ptr (L.length+1) 0,ck)]) (ck+1)))(hB:B=((A++[h,a0]).set (L.length+1) (.cells [dnA dn,.sl (aG (NK dn).reverse) dn.length none,atR v,.int .i64 0])).set mi (.map ((rs++[(bp true dn,last+1,ci)]).map kyA) (ci+1))++[X]):
  bY B iv mn mi (λi=>if i=last+1 then L.length+1 else nb i) (λi=>if i=last+1 then ck else bn i) (ck+1) (ci+1) (rs++[(bp true dn,last+1,ci)]) suf (last+1) (tK l last dn v) (tK l last dn v) (λi=>if i=last+1 then 0 else(iQ l i:Nat))/\aZ (OfT iv mn mi nb l) L B /\
  (A++[h,a0])[it]?=some (.cells [.ptr iv 0])/\(A++[h,a0])[iv]?=some (.cells [dnA suf,.lmap mn,.lmap mi,.int .i64 (last+1)])/\(A++[h,a0])[mn]?=some (.map ((l.map (gL nb bn))++[(.int .i64 (last+1),.ptr (L.length+1) 0,ck)]) (ck+1))/\(A++[h,a0])[mi]?=some (.map (rs.map kyA) ci)/\(A++[h,a0])[L.length+1]?=some a0 /\
  dH (.int .i64 (last+1)) ((l.map (gL nb bn))++[(.int .i64 (last+1),.ptr (L.length+1) 0,ck)]) 0=some (some (l.length,.ptr (L.length+1) 0))/\dH (.str (bp true dn)) (rs.map kyA) 0=some none/\dH (.int .i64 (last+1)) (l.map (gL nb bn)) 0=some none:=by
 have V:=f.toK N;have D:=(aps.1 f.v).1;have J:=(aps.1 f.n).1;have h3:=(aps.1 f.i).1;have h4:=(aps.1 m).1;have M:iv≠mn:=λe=>by have:=f.v;rw[e,f.n]at this;simp at this
 have t:iv≠mi:=λe=>by have:=f.v;rw[e,f.i]at this;simp at this
 have ai:A.length=L.length:=by rw[w];simp
 have P:∀i,i≠iv->i≠mn->A[i]?=L[i]?:=λi a b=>by rw[w,apM (Ne.symm b),apM (Ne.symm a)]
 have S:A[iv]?=some (.cells [dnA suf,.lmap mn,.lmap mi,.int .i64 (last+1)]):=by rw[w,apM (Ne.symm M)];simp[D]
 have O:A[mn]?=some (.map ((l.map (gL nb bn))++[(.int .i64 (last+1),.ptr (L.length+1) 0,ck)]) (ck+1)):=by rw[w];simp[J]
 have E:∀i,i<L.length->(A++[h,a0])[i]?=A[i]?:=λi U=>apx asP
 have F:∀i,i<L.length->i≠mi->B[i]?=A[i]?:=λi U hm=>by grind
 have K:B[mi]?=some (.map ((rs++[(bp true dn,last+1,ci)]).map kyA) (ci+1)):=by grind
 have z:B[L.length+1]?=some (.cells [dnA dn,.sl (aG (NK dn).reverse) dn.length none,atR v,.int .i64 0]):=by simp[*]
 have d:∀x∈l,x.id≠last+1:=λx c e=>by have:=(N.ids x c).2;omega
 have q:∀x∈l,nb x.id<L.length:=λx c=>(aps.1 (f.nd x c)).1
 have T:∀x∈l,bp true x.nm≠bp true dn:=λx c e=>H x c ((kD (N.ok x c) C).1 e)
 have ad:∀r∈rs,r.1≠bp true dn:=λr hr e=>by obtain⟨x,c,Q,_⟩:=(f.mem r.1 r.2.1).1 ⟨r.2.2,hr⟩;simp_all
 have o:(tK l last dn v).map (gL (λi=>if i=last+1 then L.length+1 else nb i) (λi=>if i=last+1 then ck else bn i))=l.map (gL nb bn)++[(.int .i64 (last+1),.ptr (L.length+1) 0,ck)]:=by
  unfold tK;rw[ap1];congr 1;refine aqJ λx c=>?_
  simp only[gL,if_neg (d x c)];simp[gL]
 refine⟨⟨by rw[F iv D t];exact S,by rw[F mn J u,O,o],K,λx c=>?_,λx c y s e=>?_,?_,λk id=>?_,?_,λx c=>?_⟩,⟨by rw[hB];simp;omega,λi U G=>?_⟩,?_,by rw[E iv D];exact S,by rw[E mn J];exact O,by rw[E mi h3,P mi (Ne.symm t) (Ne.symm u)];exact f.i,?_,?_,?_,?_⟩;rcases apy.1 c with c|c;have p:=V.nd x c;have I:=d x c;have W:nb x.id≠iv:=λe=>by rw[e,f.v]at p;simp[dJ]at p
 have m2:nb x.id≠mn:=λe=>by rw[e,f.n]at p;simp at p
 have m3:nb x.id≠mi:=λe=>by rw[e,f.i]at p;simp at p
 simp only[if_neg I];rw[F _ (q x c) m3,P _ W m2,p];unfold dJ;simp[*];rw[apT.1 c];simp only[if_true];rw[z];simp only[dJ,pth,if_true];rcases apy.1 c with c|c<;>rcases apy.1 s with s|s;simp only[if_neg (d x c),if_neg (d y s)]at e;exact V.inj x c y s e
 grind
 grind
 simp_all;rw[ap1,arR];refine⟨f.keys,asQ,λa R b j e=>?_⟩
 grind
 constructor;rintro⟨b,j⟩;rcases apy.1 j with j|j;obtain⟨x,c,e⟩:=(f.mem k id).1 ⟨b,j⟩;exact⟨x,aqH _ c,e⟩;simp only[apT,apI]at j;exact⟨_,arh _ (apT.2 rfl),j.1.symm,j.2.1.symm⟩;rintro⟨x,c,Q,Z⟩;rcases apy.1 c with c|c;obtain⟨b,j⟩:=(f.mem k id).2 ⟨x,c,Q,Z⟩
 grind
 simp_all;unfold tK;rw[ap1,arR];refine⟨?_,asQ,λa R b j e=>?_⟩;rw[aqJ (g:=λx=>bn x.id) λx c=>by simp only[if_neg (d x c)]];exact f.bnd;obtain⟨x,c,rfl⟩:=apz.1 R;simp only[apX,ara,apT,if_true]at j;simp only[if_neg (d x c)]at e;have:=f.blt x c;omega;rcases apy.1 c with c|c;simp only[if_neg (d x c)];have:=f.blt x c;omega;simp_all;have b1:i≠iv:=λe=>G (.inl e)
 have Y:i≠mn:=λe=>G (.inr (.inl e))
 have b3:i≠mi:=λe=>G (.inr (.inr (.inl e)))
 grind
 have b1:it≠iv:=λe=>by rw[e,f.v]at m;simp at m
 have Y:it≠mn:=λe=>by rw[e,f.n]at m;simp at m
 grind
 simp[*];rw[<- o,Ef];have:(tK l last dn v).findIdx? (λx=>decide (x.id=last+1))=some l.length:=by
  unfold tK
  grind
 simp[*];rw[Eh]
 grind
 rw[Ef];simp_all
end
set_option maxHeartbeats 8000000
set_option maxRecDepth 100000
section
variable {L:List Blk}{iv mn mi it:Nat}{nb bn:Int->Nat}{ck ci:Nat}{rs:List TKy}{suf:List Rdn}{last:Int}{l:List aC}
theorem aoG(r:TOk suf last l)(ai:mn≠mi)(a':l.length<=1000000)(ar:0<=last)(a9:last<=1000000)(j:L[it]?=some (.cells [.ptr iv 0]))(w:b9 L iv mn mi nb bn ck ci rs suf last l){dn tn:List Rdn}{v:List Atr}(J:dnB dn)(Z:dnB tn)(a0:v.length<=1100000)(an:∀a∈v,a.2.length<=1100000)(ha:fY suf l 1 dn tn=0){K:apr}(h:∀L' D z E C F,b9 L' iv mn mi D z E C F suf (last+1) (tK l last dn v)->L'[it]?=some (.cells [.ptr iv 0])->aZ (OfT iv mn mi nb l) L L'->K (.int .i64 0) L'):
  apq 34 [.ptr it 0,.agg [.int .i64 1,dnA dn,dnA tn,atR v]] L K:=by
 obtain⟨p,_⟩:=r.canA ha;have N:=p.ok;have a1:bC l dn=0:=r.find0.2 (tJ.2 λ_ x f=>p.no x f);have O:=w.v;have Q:=w.n;have m:iv<L.length:=(aps.1 O).1;have H:mn<L.length:=(aps.1 Q).1;have I:it<L.length:=(aps.1 j).1;have al:iv≠mn:=λe=>by have:=w.v;rw[e,w.n]at this;simp at this
 have ap:iv≠it:=λe=>by have:=w.v;rw[e,j]at this;simp at this
 have av:∀X:List Blk,(L++X)[iv]?=some (.cells [dnA suf,.lmap mn,.lmap mi,.int .i64 last]):=λX=>by rw[apx m];exact O
 have a7:∀X:List Blk,(L++X)[it]?=some (.cells [.ptr iv 0]):=λX=>by rw[apx I];exact j
 have sv:∀(X:List Blk) b,(L++X).set iv b=L.set iv b++X:=λX b=>aqB _ _ m
 have bb:∀(X:List Blk) b,(L.set iv b++X)[iv]?=some b:=λX b=>by rw[apx (by simpa using m)];simp[m]
 have a5:∀(X:List Blk) b,(L.set iv b++X)[it]?=some (.cells [.ptr iv 0]):=λX b=>by rw[apx (by simpa using I),apM ap];exact j
 have a3:∀(X:List Blk) b,(L.set iv b++X)[mn]?=some (.map (l.map (gL nb bn)) ck):=λX b=>by rw[apx (by simpa using H),apM al];exact Q
 have a4:∀(X:List Blk) b c,(L.set iv b++X).set mn c=(L.set iv b).set mn c++X:=λX b c=>aqB _ _ (by simpa using H)
 have a6:∀(X:List Blk) (b c:Blk),(L.set iv b++c::X)[L.length]?=some c:=λX b c=>by rw[apH asQ];simp
 have a_:∀(X:List Blk) (b c d:Blk),((L.set iv b).set mn d++c::X)[L.length]?=some c:=λX b c d=>by rw[apH asQ];simp
 have kk1:Hid (∀{X:List Blk}{K:apr},K (.int .i64 0) (L++X)->apq 78 [.ptr iv 0,.agg [.int .i64 1,dnA dn,dnA tn,atR v]] (L++X) K):=@hid _ (by intro X K q;exact Tt r asP (w.app X) J Z (by rw[ha];exact q))
 have kk2:Hid (∀{X:List Blk}{K:apr},K (.int .i64 0) (L++X)->apq 24 [.ptr iv 0,dnA dn] (L++X) K):=@hid _ (by intro X K q;exact tQ J r (w.app X) (by rw[a1];exact q))
 have kk3:Hid (Ctr Tryz.prog 60 [atR v] (atR v)):=@hid _ (by intro L K q;exact YP a0 an q);have w1:IntKind.i64.wrap (last+1)=last+1:=ae asP asP;have a8:bT .int (.int .i64 (last+1))=true:=rfl;have bi:∀b,(L.set iv b).length=L.length:=λb=>List.length_set
 obtain⟨k,T⟩:∃k:Blk,k=.cells [.int .i64 1,dnA dn,dnA tn,atR v]:=⟨_,rfl⟩;obtain⟨A,hA⟩:=apl ((L.set iv (.cells [dnA suf,.lmap mn,.lmap mi,.int .i64 (last+1)])).set mn (.map ((l.map (gL nb bn))++[(.int .i64 (last+1),.ptr (L.length+1) 0,ck)]) (ck+1)));obtain⟨B,W⟩:=apl (((A++[k,.cells [.sl [] 0 (some 0),.sl [] 0 (some 0),atR v,.int .i64 0]]).set (L.length+1) (.cells [dnA dn,.sl (aG (NK dn).reverse) dn.length none,atR v,.int .i64 0])).set mi (.map ((rs++[(bp true dn,last+1,ci)]).map kyA) (ci+1))++[.cells [.sl (aG (NK dn).reverse) dn.length none]]);have M:A.length=L.length:=by rw[<- hA];simp
 have a2:mi<L.length:=(aps.1 w.i).1;obtain⟨s,u,p1,p2,p3,p4,p5,p6,p7,p8⟩:=w.added r ai j N p.no v k (.cells [.sl [] 0 (some 0),.sl [] 0 (some 0),atR v,.int .i64 0]) (.cells [.sl (aG (NK dn).reverse) dn.length none]) A B hA.symm W.symm;have pb:B[L.length]?=some k:=by rw[<- W,apx (by simp;omega),apM asP,apM asP,apH asP,M];simp
 have bk:(A++[k,.cells [.sl [] 0 (some 0),.sl [] 0 (some 0),atR v,.int .i64 0]])[L.length]?=some k:=by rw[apH asP,M];simp
 have t:B[it]?=some (.cells [.ptr iv 0]):=u.get j ((w.toK r).noIt j);obtain⟨g,U,P⟩:=r.add ar p v;have kk4:Hid (∀{K:apr},K (.tup []) B->apq 79 [.ptr it 0,.int .i64 (last+1),dnA dn] (A++[k,.cells [.sl [] 0 (some 0),.sl [] 0 (some 0),atR v,.int .i64 0]]) K):=@hid _ (by intro K q;refine aiI N p1 p2 p3 p6 p5 p4 p7 ?_;rw[W];exact q)
 have kk5:Hid (∀{K:apr},(∀L' D z E C F,b9 L' iv mn mi D z E C F suf (last+1) (tK l last dn v)->L'[it]?=some (.cells [.ptr iv 0])->aZ (OfT iv mn mi nb l) L L'->K (.tup []) L')->apq 80 [.ptr it 0,dnA dn,.int .i64 1] B K):=@hid _ (by
  intro K q;have ad:dn≠[]:=λe=>by rcases p.par with S|⟨x,f,S⟩;exact r.inv.sne (by rw[<- S,e];rfl);exact r.inv.ne (gM f) (by rw[S,e];rfl)
  have Y:∀i,(iQ l i:Int)<=l.length:=λi=>by
   unfold iQ bF;cases o7 l i with
   |none=>simp
   |some x=>simp only;exact Int.ofNat_le.2 (apR (aqL _ _) (by simp[d8]))
  refine OL J ad g (λx f=>⟨x,f,rfl⟩) (λx f=>(g.ids x f).1) t s asP (λi=>?_) λL' hK hb=>?_
  split;omega;have:=Y i;omega;refine q L' _ _ _ _ _ (hK.toT λx f=>?_) (hb.get t (s.noIt t)) (u.trans2 hb λi hi=>?_);rw[P (NK x.nm)];have G:(x.id=bC (tK l last dn v) dn.tail)↔(NK dn).tail=NK x.nm:=by
   rw[<- Ws];constructor;intro e;unfold bC at e;cases hq:atE (tK l last dn v) dn.tail with
   |none=>rw[hq]at e;have:=(g.ids x f).1;simp only at e;omega
   | some y =>
     rw[hq]at e;obtain⟨_,hy,S⟩:=cQ hq;rw[g.byI f hy e,S]
   intro e;unfold bC;rw[g.at f N.tail e]
  have R:(if x.id=last+1 then(0:Int)else(iQ l x.id:Nat))=(bF (d8 l) (NK x.nm):Nat):=by rcases apy.1 f with f|f;rw[if_neg (by have:=(r.ids x f).2;omega),r.kidsE f];rw[apT.1 f,if_pos rfl];have:=P (NK dn);rw[U]at this;simp only;omega
  by_cases V:(NK dn).tail=NK x.nm;rw[if_pos V,if_pos (G.2 V),R];simp;rw[if_neg V,if_neg (λe=>V (G.1 e)),R];simp;rintro(e|e|e|⟨x,f,e⟩);exact .inl e;exact .inr (.inl e);exact .inr (.inr (.inl e));rcases apy.1 f with f|f;exact .inr (.inr (.inr ⟨x,f,by rw[e];exact if_neg (by have:=(r.ids x f).2;omega)⟩));rw[apT.1 f]at e;simp only[if_true]at e;omega)
 replace h:=hid h;clear W s u p6 p7 g U P p O Q j M;subst T;refine apo fV ?_;simp only[apC,ap9,Nat.reduceAdd,arN,arw,aqa,apZ];refine asX ?_;intro L' D z E C F q1 q2 q3;replace q1:=hid q1;replace q2:=hid q2;replace q3:=hid q3;refine wk ?_;exact aa (h.o L' _ _ _ _ _ q1.o q2.o q3.o)
end
set_option maxHeartbeats 8000000
set_option maxRecDepth 100000
theorem WC{β γ:Type}(f:β->γ):∀(l:List β) (n:Nat),(l.eraseIdx n).map f=(l.map f).eraseIdx n
 |[],_=>rfl
 |x::l,0=>rfl
 |x::l,n+1=>by simp only[List.eraseIdx_cons_succ,apX,WC f l n]
theorem pk{β γ:Type}[DecidableEq γ](f:β->γ):∀(l:List β) (k:γ),(l.map f).Nodup->∀n,l.findIdx? (λx=>decide (f x=k))=some n->l.eraseIdx n=l.filter λx=>decide (f x≠k)
 |[],k,_,n,h=>by simp at h
 | x::l,k,hn,n,h=>by
   rw[apX,aqI]at hn;rw[arn]at h;by_cases c:f x=k
   .rw[decide_eq_true c]at h;simp only[if_true,apu]at h;subst h;rw[List.filter_cons_of_neg (by simpa using c)];exact(List.filter_eq_self.2 λy b=>by simp only[ne_eq,decide_eq_true_eq];intro e;exact hn.1 (apz.2 ⟨y,b,by rw[e,c]⟩)).symm
   .rw[decide_eq_false c]at h;simp only[apL,if_false,ap6]at h;obtain⟨m,a,rfl⟩:=h;rw[List.filter_cons_of_pos (by simpa using c),List.eraseIdx_cons_succ,pk f l k hn.2 m a]
section
variable {L:List Blk}{iv mn mi it:Nat}{nb bn:Int->Nat}{ck ci:Nat}{rs:List TKy}{suf:List Rdn}{last:Int}{l lk:List aC}{kd:Int->Int}
theorem bY.nemi(h:bY L iv mn mi nb bn ck ci rs suf last l lk kd):iv≠mi:=λe=>by have:=h.v;rw[e,h.i]at this;simp at this
theorem bY.nemn(h:bY L iv mn mi nb bn ck ci rs suf last l lk kd):iv≠mn:=λe=>by have:=h.v;rw[e,h.n]at this;simp at this
theorem bY.nenb(h:bY L iv mn mi nb bn ck ci rs suf last l lk kd){x:aC}(b:x∈l):nb x.id≠iv/\nb x.id≠mn/\nb x.id≠mi:=by have a:=h.nd x b;exact⟨λe=>by rw[e,h.v]at a;simp[dJ]at a,λe=>by rw[e,h.n]at a;simp at a,λe=>by rw[e,h.i]at a;simp at a⟩
theorem bY.delk(h:bY L iv mn mi nb bn ck ci rs suf last l lk kd)(s:mn≠mi){y:aC}(F:y∈lk)(G:∀x∈lk,bp true x.nm=bp true y.nm↔x.id=y.id):
  ∃j,dH (.str (bp true y.nm)) (rs.map kyA) 0=some (some (j,.int .i64 y.id))/\bY (L.set mi (.map ((rs.map kyA).eraseIdx j) ci)) iv mn mi nb bn ck ci (rs.eraseIdx j) suf last l (Wf lk y.id) kd:=by
 obtain⟨b,C⟩:=(h.mem (bp true y.nm) y.id).2 ⟨y,F,rfl,rfl⟩;rw[Eh];rcases fR (f:=λr:TKy=>decide (r.1=bp true y.nm)) (l:=rs)with⟨m,t⟩|⟨n,m,H,t⟩
 grind
 have E:=arl t;have z:=arm t;simp only[decide_eq_true_eq]at z;have B:rs.getD n default=(bp true y.nm,y.id,b):=f9 h.keys E C z;have g:=(aps.1 h.i).1;have d:=pk (λr:TKy=>r.1) rs (bp true y.nm) h.keys n m;refine⟨n,by rw[m];simp only[apN,B,aqA],?_⟩;have p:∀r:TKy,r∈rs.eraseIdx n↔r∈rs/\r.1≠bp true y.nm:=λr=>by rw[d,ap8];simp
 refine⟨by rw[apM (Ne.symm h.nemi)];exact h.v,by rw[apM (Ne.symm s)];exact h.n,by rw[arF g,WC],λx a=>by rw[apM (Ne.symm (h.nenb a).2.2)];exact h.nd x a,h.inj,(List.Sublist.map _ (List.eraseIdx_sublist ..)).nodup h.keys,λk id=>?_,h.bnd,h.blt⟩;constructor;rintro⟨c,w⟩;obtain⟨o,D⟩:=(p _).1 w;obtain⟨x,a,q,u⟩:=(h.mem k id).1 ⟨c,o⟩;refine⟨x,ap8.2 ⟨a,?_⟩,q,u⟩
 grind
 rintro⟨x,a,q,u⟩;obtain⟨e,A⟩:=ap8.1 a;obtain⟨c,w⟩:=(h.mem k id).2 ⟨x,e,q,u⟩
 grind
theorem bY.deln(h:bY L iv mn mi nb bn ck ci rs suf last l lk kd)(d:mn≠mi)(k:(l.map (·.id)).Nodup){y:aC}(p:y∈l):
  ∃j v,dH (.int .i64 y.id) (l.map (gL nb bn)) 0=some (some (j,v))/\bY (L.set mn (.map ((l.map (gL nb bn)).eraseIdx j) ck)) iv mn mi nb bn ck ci rs suf last (Wf l y.id) lk kd:=by
 rw[Ef];rcases fR (f:=λx:aC=>decide (x.id=y.id)) (l:=l)with⟨c,m⟩|⟨n,c,o,m⟩
 grind
 have e:=(aps.1 h.n).1;have b:=pk (λx:aC=>x.id) l y.id k n c;have sub:∀x∈Wf l y.id,x∈l:=λx a=>(ap8.1 a).1
 refine⟨n,_,by rw[c];simp;rfl,?_⟩;refine⟨by rw[apM (Ne.symm h.nemn)];exact h.v,by rw[arF e,<- WC,b];rfl,by rw[apM d];exact h.i,λx a=>by rw[apM (Ne.symm (h.nenb (sub x a)).2.1)];exact h.nd x (sub x a),λx a z g=>h.inj x (sub x a) z (sub z g),h.keys,h.mem,?_,λx a=>h.blt x (sub x a)⟩;exact(List.Sublist.map _ List.filter_sublist).nodup h.bnd
theorem bY.cha(h:bY L iv mn mi nb bn ck ci rs suf last l lk kd){y:aC}(s:y∈l)(v:List Atr):
  bY (L.set (nb y.id) (.cells [dnA y.nm,.sl (aG (pth y)) y.nm.length none,atR v,.int .i64 (kd y.id)])) iv mn mi nb bn ck ci rs suf last (rD l y.id v) (rD lk y.id v) kd:=by
 have r:=h.nd y s;have G:=(aps.1 r).1;obtain⟨C,D,n3⟩:=h.nenb s;have f:(rD l y.id v).map (gL nb bn)=l.map (gL nb bn):=by
  unfold rD;rw[apS];refine aqJ λx _=>?_
  simp only[arQ];split<;>rfl
 have p:(rD l y.id v).map (λx=>bn x.id)=l.map (λx=>bn x.id):=by
  unfold rD;rw[apS];refine aqJ λx _=>?_
  grind
 have back:∀{m:List aC} {x},x∈rD m y.id v->∃z∈m,z.id=x.id/\z.nm=x.nm/\(z.id=y.id->x.av=v)/\(z.id≠y.id->x=z):=λ{m x} d=>by
  obtain⟨z,c,rfl⟩:=apz.1 d
  grind
 have q:∀{m:List aC} {z},z∈m->∃x∈rD m y.id v,x.id=z.id/\x.nm=z.nm:=λ{m z} c=>by refine⟨_,apz.2 ⟨z,c,rfl⟩,?_,?_⟩<;>split<;>rfl
 refine⟨by rw[apM C];exact h.v,by rw[apM D,f];exact h.n,by rw[apM n3];exact h.i,λx d=>?_,λx d z c e=>?_,h.keys,λk id=>?_,by rw[p];exact h.bnd,λx d=>?_⟩;obtain⟨z,c,g,t,E,u⟩:=back d;by_cases e:nb y.id=nb z.id;have F:=h.inj y s z c e;have j:dJ kd y=dJ kd z:=by have H:=h.nd z c;simp_all
 unfold dJ at j⊢;have I:pth x=pth z:=by unfold pth;rw[t]
 simp_all;have o:z.id≠y.id:=λB=>e (by rw[B])
 rw[u o,apM e];exact h.nd z c;obtain⟨a,A,g,_⟩:=back d;obtain⟨b,w,t,_⟩:=back c;rw[<- g,<- t]at e⊢;exact h.inj a A b w e;rw[h.mem k id]
 grind
 obtain⟨z,c,g,_⟩:=back d;rw[<- g];exact h.blt z c
def nmT(l:List aC)(id:Int)(d:List Rdn):List aC:=l.map λx=>if x.id=id then{x with nm:=d}else x
theorem bY.ren(h:bY L iv mn mi nb bn ck ci rs suf last l lk kd)(w:mn≠mi){y:aC}(q:y∈l){d:List Rdn}(H:∀x∈lk,bp true x.nm≠bp true d)(X:List Blk):
  dH (.str (bp true d)) (rs.map kyA) 0=some none /\
  bY ((L.set (nb y.id) (.cells [dnA d,.sl (aG (NK d).reverse) d.length none,atR y.av,.int .i64 (kd y.id)])).set mi (.map ((rs++[(bp true d,y.id,ci)]).map kyA) (ci+1))++X) iv mn mi nb bn ck (ci+1) (rs++[(bp true d,y.id,ci)]) suf last (nmT l y.id d) (lk++[{y with nm:=d}]) kd:=by
 have B:∀r∈rs,r.1≠bp true d:=λr A e=>by obtain⟨x,c,j,_⟩:=(h.mem r.1 r.2.1).1 ⟨r.2.2,A⟩;simp_all
 refine⟨by rw[Eh,List.findIdx?_eq_none_iff.2 λr A=>by simpa using B r A];rfl,bY.app ?_ X⟩;have p:=h.nd y q;have M:=(aps.1 p).1;have t:=(aps.1 h.i).1;obtain⟨J,K,n3⟩:=h.nenb q;have m:(nmT l y.id d).map (gL nb bn)=l.map (gL nb bn):=by
  unfold nmT;rw[apS];refine aqJ λx _=>?_
  simp only[arQ];split<;>rfl
 have C:(nmT l y.id d).map (λx=>bn x.id)=l.map (λx=>bn x.id):=by
  unfold nmT;rw[apS];refine aqJ λx _=>?_
  grind
 have back:∀{x},x∈nmT l y.id d->∃z∈l,z.id=x.id/\z.av=x.av/\(z.id=y.id->x.nm=d)/\(z.id≠y.id->x=z):=λ{x} c=>by
  obtain⟨z,f,rfl⟩:=apz.1 c
  grind
 refine⟨by rw[apM (Ne.symm h.nemi),apM J];exact h.v,by rw[apM (Ne.symm w),apM K,m];exact h.n,by rw[arF (by simpa using t)],λx c=>?_,λx c z f e=>?_,?_,λk id=>?_,by rw[C];exact h.bnd,λx c=>?_⟩;obtain⟨z,f,j,o,G,E⟩:=back c;rw[<- j,apM (Ne.symm (h.nenb f).2.2)];by_cases e:nb y.id=nb z.id;have F:=h.inj y q z f e;have s:dJ kd y=dJ kd z:=by have N:=h.nd z f;simp_all
 unfold dJ at s⊢;have O:pth x=(NK d).reverse:=by unfold pth;rw[G F.symm]
 simp_all;have u:z.id≠y.id:=λI=>e (by rw[I])
 rw[E u,apM e];exact h.nd z f;obtain⟨a,D,j,_⟩:=back c;obtain⟨b,g,o,_⟩:=back f;rw[<- j,<- o]at e⊢;exact h.inj a D b g e;rw[ap1,arR];refine⟨h.keys,asQ,λa D b g e=>?_⟩
 grind
 constructor;rintro⟨b,g⟩;rcases apy.1 g with g|g;obtain⟨x,c,e⟩:=(h.mem k id).1 ⟨b,g⟩
 grind
 simp_all;rintro⟨x,c,j,o⟩;rcases apy.1 c with c|c;obtain⟨b,g⟩:=(h.mem k id).2 ⟨x,c,j,o⟩
 grind
 simp_all;obtain⟨z,f,j,_⟩:=back c;rw[<- j];exact h.blt z f
end
end Go.Proofs.YtdnfjhflkkpokaaGreatDoor.Av
