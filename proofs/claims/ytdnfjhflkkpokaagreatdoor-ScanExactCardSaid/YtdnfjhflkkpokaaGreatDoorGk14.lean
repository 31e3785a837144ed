/- Joined texts of the walk, made small by a program. -/
import Derived.Test.YtdnfjhflkkpokaaGreatDoorGk4
import Derived.Test.YtdnfjhflkkpokaaGreatDoorRows
import Derived.KernelRfl
import Derived.Test.YtdnfjhflkkpokaaGreatDoorGk13
import Derived.Test.YtdnfjhflkkpokaaGreatDoorGk10
import Derived.Test.YtdnfjhflkkpokaaGreatDoorGk7
import Derived.Test.YtdnfjhflkkpokaaGreatDoorGk8
import Derived.Test.YtdnfjhflkkpokaaGreatDoorGk12
import Derived.Test.YtdnfjhflkkpokaaGreatDoorGk11
import Derived.Test.YtdnfjhflkkpokaaGreatDoorGk5
set_option linter.unusedSimpArgs false
set_option linter.unusedVariables false
set_option maxRecDepth 100000
namespace Go.Proofs.YtdnfjhflkkpokaaGreatDoor.Av
open Go
def TZ:LSO:=[Ac 4 0]
def TY:LSO:=[Aa 6 0,Ah 7 6,Ac 8 0]
def TX:LSO:=[Al 9 8 7]
def TW:LSO:=[Aa 10 8,Aa 5 10]
def TV:LSO:=[Aa 11 0,Aa 12 5,Am 13 4 11 12,Ad 14 0 13,Ab 15 1 14,Aj 16 49 15,Aa 17 1,Aj 18 49 17,AH 19 16 18]
def TU:LSO:=[Aa 20 5,Aa 4 20]
def TT:LSO:=[Ai 21 8 1,Aa 8 21]
def TQ:LSO:=[Ac 4 (-1)]
def Sv:aK:=⟨22,(ash TZ [] (.seq (ash TY CD (ask 0 (ash TX [] (.seq (asl 9 0) (.seq (.block 1 (ash TW C4 (ash TV CL (asj 19 (.sreg TU C4))))) (.sreg TT C4)))))) (ash TQ [] .ret))),[(.tmp 4)]⟩
attribute [push_cast] TZ TY TX TW TV TU TT TQ
theorem aaD:asm 41=asn Sv:=asq
def yx:LSO:=[Ak 4]
def yw:LSO:=[Aa 7 0,Ah 8 7,Ac 9 0]
def yv:LSO:=[Al 10 9 8]
def yu:LSO:=[Am 11 2 7 9,As 12 2 11,Bj 6,Ap 2 6 12]
def yt:LSO:=[Ad 13 0 6,Ab 14 1 13,Aj 15 49 14,Aa 16 1,Aj 17 49 16,AH 18 15 17]
def yr:LSO:=[Cb 19,Ad 20 1 6,Ab 21 1 20,BD 22 19 21,Aa 4 22]
def yq:LSO:=[Ai 23 9 1,Aa 9 23]
def yo:LSO:=[Ak 4]
def tH:aK:=⟨24,(ash yx [] (.seq (ash yw [] (ask 0 (ash yv [] (.seq (asl 10 0) (.seq (.block 1 (ash yu C6 (ash yt CB (asj 18 (.sreg yr CA))))) (.sreg yq C4)))))) (ash yo [] .ret))),[(.tmp 4)]⟩
attribute [push_cast] yx yw yv yu yt yr yq yo
theorem VP:asm 29=asn tH:=asq
def Ki:LSO:=[Aw 4]
def Kh:LSO:=[Aa 8 0,Aa 9 1,Ar 10 92 8 9,Aa 7 10,Ao 11 7,Aq 12 7,Aa 5 11,Aa 6 12]
def Kg:LSO:=[Aa 13 5,Aa 4 13]
def EZ:aK:=⟨14,(ash Ki [] (ash Kh Da (ash Kg C4 .ret))),[(.tmp 4)]⟩
attribute [push_cast] Ki Kh Kg
theorem X2:asm 142=asn EZ:=asq
def TP:LSO:=[Af 6]
def TO:LSO:=[Aa 9 1,Ah 10 9,Ac 11 0]
def TN:LSO:=[Al 12 11 10]
def TM:LSO:=[Am 13 1 9 11,Ab 14 1 13,Aa 8 14]
def TK:LSO:=[Aa 15 0,Aa 16 8,Ar 17 142 15 16,Aa 18 2,AH 19 17 18]
def TJ:LSO:=[A5 6]
def TI:LSO:=[Ai 20 11 1,Aa 11 20]
def TH:LSO:=[Af 6]
def Su:aK:=⟨21,(ash TP [] (.seq (ash TO [] (ask 0 (ash TN [] (.seq (asl 12 0) (.seq (.block 1 (ash TM C6 (ash TK CA (asj 19 (.sreg TJ []))))) (.sreg TI C4)))))) (ash TH [] .ret))),[(.tmp 6)]⟩
attribute [push_cast] TP TO TN TM TK TJ TI TH
theorem aaC:asm 93=asn Su:=asq
def Kt:LSO:=[Ak 6]
def Ks:LSO:=[Ak 7]
def Kr:LSO:=[Af 8]
def Kq:LSO:=[Aa 11 1,Ah 12 11,Ac 13 0]
def Ko:LSO:=[Al 14 13 12]
def Kn:LSO:=[Am 15 1 11 13,Ab 16 1 15,Aa 10 16]
def Km:LSO:=[Aa 17 8,A3 18 17,Aa 19 18,.grp none 19 true
 [Ae 20 19 0,Ae 21 19 2,AN 22 19 142 20 21,Ae 23 19 0,Ae 24 19 10,AN 25 19 142 23 24,Cr 26 19 22 25]
 27 (tm 26)]
def Kl:LSO:=[Aa 28 7,Aa 29 2,B4 30 29,BD 31 28 30,Aa 7 31]
def Kk:LSO:=[A5 8]
def Kj:LSO:=[Aa 32 7,Aa 33 10,B4 34 33,BD 35 32 34,Aa 7 35]
def Gc:LSO:=[Ai 36 13 1,Aa 13 36]
def Gb:LSO:=[Aa 37 8,A3 38 37]
def Ga:LSO:=[Aa 39 7,Aa 40 2,B4 41 40,BD 42 39 41,Aa 7 42]
def F9:LSO:=[Aa 43 7,Aa 6 43]
def E5:aK:=⟨44,(ash Kt [] (ash Ks [] (ash Kr [] (.seq (ash Kq [] (ask 0 (ash Ko [] (.seq (asl 14 0) (.seq (.block 1 (ash Kn C6 (.seq (ash Km C7 (asi 27 (ash Kl CA (.sreg Kk [])) .skip)) (.sreg Kj CA)))) (.sreg Gc C4)))))) (.seq (ash Gb C4 (asi 38 (.sreg Ga CA) .skip)) (ash F9 C4 .ret)))))),[(.tmp 6)]⟩
attribute [push_cast] Kt Ks Kr Kq Ko Kn Km Kl Kk Kj Gc Gb Ga F9
theorem X3:asm 94=asn E5:=asq
def P6:LSO:=[Ay 3 0,Ak 6,Ac 7 0]
def P5:LSO:=[Aa 12 2,Ah 13 12,Ac 14 0]
def P4:LSO:=[Al 15 14 13]
def P3:LSO:=[Am 16 1 12 14,Ab 17 1 16,Aa 9 17]
def P2:LSO:=[Ad 19 1 3,Ab 20 1 19,Aa 21 9,Ar 22 92 20 21,Aa 18 22,Ao 23 18,Aq 24 18,Aa 10 23,Aa 11 24]
def P1:LSO:=[Aa 25 11,A3 26 25]
def P0:LSO:=[Ak 6,Ac 7 21]
def PZ:LSO:=[Ad 27 1 3,Ab 28 1 27,Aa 29 1,Aa 30 10,AF 31 93 28 29 30]
def PY:LSO:=[Ak 6,Ac 7 20]
def PX:LSO:=[Ad 32 1 3,Ab 33 1 32,Aa 34 1,Aa 35 9,AF 36 94 33 34 35,Aa 1 36]
def Kx:LSO:=[Ai 37 14 1,Aa 14 37]
def Kw:LSO:=[Ad 38 2 3,Ab 39 1 38,Aa 40 39,.grp none 40 true
 [Ae 41 40 1,AE 42 40 41,BC 43 40 42 1]
 44 (tm 43)]
def Kv:LSO:=[Ak 6,Ac 7 19]
def Ku:LSO:=[Aa 45 1,Aa 6 45,Ac 7 0]
def NQ:aK:=⟨46,(ash P6 [] (.seq (ash P5 [] (ask 0 (ash P4 [] (.seq (asl 15 0) (.seq (.block 1 (ash P3 C6 (ash P2 CR (.seq (ash P1 C4 (asj 26 (.sreg P0 []))) (.seq (ash PZ CA (asj 31 (.sreg PY []))) (.sreg PX CB)))))) (.sreg Kx C4)))))) (.seq (ash Kw C7 (asj 44 (.sreg Kv []))) (ash Ku CD .ret)))),[(.tmp 6),(.tmp 7)]⟩
attribute [push_cast] P6 P5 P4 P3 P2 P1 P0 PZ PY PX Kx Kw Kv Ku
theorem ZX:asm 42=asn NQ:=asq
def Qg:LSO:=[Ak 6]
def Qf:LSO:=[Ak 7]
def Qe:LSO:=[Aa 11 2,Ah 12 11,An 13 12 0,Aa 8 13]
def Qd:LSO:=[Aa 14 0,Ah 15 14,Ac 16 0]
def Qc:LSO:=[Al 17 16 15]
def Qb:LSO:=[Am 18 2 14 16,As 19 2 18,Bj 10,Ap 2 10 19]
def Qa:LSO:=[Aa 20 8,A3 21 20,Aa 22 21,.grp none 22 true
 [Ae 23 22 1,Bb 24 22 49 23,Az 25 22 0 10,A0 26 22 1 25,Bb 27 22 49 26,og 28 22 true (.bin .leq (tm 24) (tm 27))]
 29 (tm 28)]
def P9:LSO:=[Aa 30 7,Aa 31 1,Aa 32 2,o1 33 (.build [(.str []),(.sl [] 0 (some 0))] [(0,(1,(tm 31))),(1,(1,(tm 32)))]),BG 34 33,BX 35 30 34,Aa 7 35]
def P8:LSO:=[A5 8]
def P7:LSO:=[Aa 36 1,Aj 37 49 36,Ad 38 0 10,Ab 39 1 38,Aj 40 49 39,Bz 41 37 40]
def KK:LSO:=[Aa 42 7,As 43 2 10,BG 44 43,BX 45 42 44,Aa 7 45]
def KJ:LSO:=[Ai 46 16 1,Aa 16 46]
def KI:LSO:=[Aa 47 8,A3 48 47]
def KH:LSO:=[Aa 49 7,Aa 50 1,Aa 51 2,o1 52 (.build [(.str []),(.sl [] 0 (some 0))] [(0,(1,(tm 50))),(1,(1,(tm 51)))]),BG 53 52,BX 54 49 53,Aa 7 54]
def KG:LSO:=[Aa 55 7,Aa 6 55]
def NR:aK:=⟨56,(ash Qg [] (ash Qf [] (ash Qe C7 (.seq (ash Qd [] (ask 0 (ash Qc [] (.seq (asl 17 0) (.seq (.block 1 (ash Qb C6 (.seq (.seq (.sdreg Qa [.pure,.pure,.pure,.pure,(.read 0 0),.pure,(.read 0 0)] C7) (asi 29 (ash P9 CC (.sreg P8 [])) .skip)) (.seq (.sdreg P7 [.pure,(.read 0 0),.pure,(.read 0 0)] CB) (asi 41 (.sreg KK CA) .skip))))) (.sreg KJ C4)))))) (.seq (ash KI C4 (asi 48 (.sreg KH CC) .skip)) (ash KG C4 .ret)))))),[(.tmp 6)]⟩
attribute [push_cast] Qg Qf Qe Qd Qc Qb Qa P9 P8 P7 KK KJ KI KH KG
theorem ZY:asm 43=asn NR:=asq
def KV:LSO:=[Ay 2 0,Ak 4,Ac 5 0]
def KU:LSO:=[Ak 6]
def KT:LSO:=[Aa 12 1,Ah 13 12,Ac 14 0]
def KR:LSO:=[Al 15 14 13]
def KQ:LSO:=[Am 16 2 12 14,As 17 2 16,Bj 8,Ap 2 8 17]
def KP:LSO:=[Ad 18 0 2,Ab 19 1 18,Ad 20 0 8,Ab 21 1 20,Ar 22 41 19 21,Aa 9 22]
def KO:LSO:=[Aa 23 9,AJ 24 23 0]
def KN:LSO:=[Ak 4,Ac 5 17]
def KM:LSO:=[Ad 25 1 8,Ab 26 1 25,Ah 27 26,An 28 27 0]
def KL:LSO:=[Ak 4,Ac 5 19]
def Gj:LSO:=[Ad 30 0 2,Ab 31 1 30,Aa 32 9,Am 33 4 31 32,As 34 4 33,Aa 35 6,Ad 36 0 8,Ab 37 1 36,Ar 38 29 35 37,Ad 39 1 8,Ab 40 1 39,AF 41 42 34 38 40,Aa 29 41,
 Ao 42 29,Aq 43 29,Aa 10 42,Aa 11 43]
def Gi:LSO:=[Aa 44 11,AB 45 44 0]
def Gh:LSO:=[Aa 46 11,Ak 4,Aa 5 46]
def Gg:LSO:=[Aa 47 6,Ad 48 0 2,Ab 49 1 48,Aa 50 9,Am 51 4 49 50,Ad 52 0 51,Ab 53 1 52,Aa 54 10,AF 55 43 47 53 54,Aa 6 55]
def Gf:LSO:=[Ai 56 14 1,Aa 14 56]
def Ge:LSO:=[Aa 57 6,Aa 4 57,Ac 5 0]
def E7:aK:=⟨58,(ash KV [] (ash KU [] (.seq (ash KT [] (ask 0 (ash KR [] (.seq (asl 15 0) (.seq (.block 1 (ash KQ C6 (ash KP CB (.seq (ash KO C4 (asj 24 (.sreg KN []))) (.seq (ash KM C7 (asj 28 (.sreg KL []))) (.seq (.sdreg Gj [.pure,(.read 0 0),.pure,(.read 0 0),(.read 0 0),.pure,.pure,(.read 0 0),(.read 0 0),.pure,(.read 0 0),(.read 0 0),.pure,.pure,.pure,.pure] [true,true,false,false,false,false,false,false,false,false,false,false,false,false,false,false,false]) (.seq (ash Gi C4 (asj 45 (.sreg Gh CD))) (.sreg Gg CG)))))))) (.sreg Gf C4)))))) (ash Ge CD .ret)))),[(.tmp 4),(.tmp 5)]⟩
attribute [push_cast] KV KU KT KR KQ KP KO KN KM KL Gj Gi Gh Gg Gf Ge
theorem X5:asm 14=asn E7:=asq
attribute [push_cast] Sv tH EZ Su E5 NQ NR E7
variable {L:List Blk}{K:aoY}
set_option maxHeartbeats 8000000
set_option maxRecDepth 100000
theorem aoP{ts:List Typ}{cap:Option Nat}{n:List UInt8}(B:ts.length<=1100000)(q:∀t∈ts,bI t.1)(u:bI n)(r:gX ts n=none->K (.int .i64 (-1)) L)(p:∀k:Nat,k<ts.length->gX ts n=some (ts.getD k Ef)->K (.int .i64 k) L):
  aoX 41 [.sl (cU ts) ts.length cap,.str n] L K:=by
 replace r:=hid r;replace p:=hid p;refine aoW aaD ?_;refine ak (λm T' L'=>∃k:Nat,m=ts.length-k/\k<=ts.length/\T'=[(8,.int .i64 (k:Int)),(7,.int .i64 ts.length),(0,.sl (cU ts) ts.length cap),(1,.str n)]/\L=L' /\
  ∀j,j<k->¬aj (ts.getD j Ef).1=aj n) (CutS (b:=ao0 _)) ⟨0,rfl,ao2 _,rfl,rfl,asp⟩ ?_
 rintro _ _ L' ⟨k,rfl,y,rfl,e,f⟩;subst e;replace f:=hid f;by_cases c:k<ts.length;have g1:(k:Int)<(ts.length:Int):=aso;have A:=aoV k aso;have z:k*4<(cU ts).length:=by rw[SX];omega
 have x:(cU ts).getD (k*4) .undef=.str (ts.getD k Ef).1:=by have v:=congrArg (λl=>l[0]?) (N9 c);simp only[ap5 (show 0<4 by omega),apY,aqe]at v;rw[apo,v];rfl
 obtain⟨ty,a⟩:=aoT (ts.getD k Ef);have w:bI ty.1:=q _ (by rw[<- a];simp[c]);rw[a]at x;replace a:=hid a;by_cases s:aj ty.1=aj n;have e:gX ts n=some (ts.getD k Ef):=Sj (d:=Ef) c (λj g=>decide_eq_false (f.o j g)) (by rw[a.o];exact decide_eq_true s);have i:=hid (p.o k c e);have kk1:=@asv _ _ _ _ (cX w);have kk2:=@asv _ _ _ _ (cX u);refine wk ?_;exact aa i.o;have kk1:=@asv _ _ _ _ (cX w);have kk2:=@asv _ _ _ _ (cX u);refine wk ?_;refine ast aso asr ⟨k+1,rfl,c,rfl,rfl,λj g=>?_⟩;rcases apt j k with h|h;exact f.o j h;have:j=k:=aso;subst this;rw[a.o];exact s;have g1:¬(k:Int)<(ts.length:Int):=aso;have i:=hid (r.o (aqB.2 λty a=>by obtain⟨j,g,e⟩:=apV.1 a;have:=f.o j aso;simpa[g,e]using this))
 refine wk ?_;exact aa i.o
theorem R6{syn:Int}{v:List UInt8}{L:List Blk}{K:aoY}(h:K (.str (gm syn v)) L):aoX 142 [.int .i64 syn,.str v] L K:=by
 unfold gm at h;refine aoW X2 ?_;refine WS ?_;rcases hm:dl syn v with _|m
 all_goals rw[hm]at h
 replace h:Hid (K (.str []) L):=hid h;simp only[kg];refine asw ?_;exact aa h.o;replace h:Hid (K (.str m) L):=hid h;simp only[kg];refine asw ?_;exact aa h.o
theorem anW{syn:Int}{l:List (List UInt8)}{cap:Option Nat}{n:List UInt8}(t:l.length<=1100000)(h:K (.bool (inM syn l n)) L):
  aoX 93 [.int .i64 syn,.sl (l.map AV.str) l.length cap,.str n] L K:=by
 obtain⟨R,g⟩:=aoT (inM syn l n);rw[g]at h;replace h:=hid h;refine aoW aaC ?_;refine ak (λm T' L'=>∃k:Nat,m=l.length-k/\k<=l.length/\Hid (inM syn (l.drop k) n=R)/\T'=[(11,.int .i64 (k:Int)),(10,.int .i64 l.length),(9,.sl (l.map AV.str) l.length cap),(0,.int .i64 syn),(2,.str n)]/\L=L') (CutS (b:=ao0 _)) ⟨0,rfl,ao2 _,hid (by simpa using g),rfl,rfl⟩ ?_;rintro _ _ L' ⟨k,rfl,r,i,rfl,e⟩;subst e;by_cases d:k<l.length;have g1:(k:Int)<(l.length:Int):=aso;have s:=aoV k aso;obtain⟨v,j⟩:=aoT (l.getD k []);have g3:(l.map AV.str).getD k .undef=.str v:=by rw[<- j];simp[d]
 have f:l.drop k=v::l.drop (k+1):=by rw[apw d,<- j];simp[d]
 have a:=i.o;rw[f,inM,arC]at a;clear j f i g;by_cases q:gm syn v=n;rw[decide_eq_true q,aqQ]at a;have c:=h.o;rw[<- a]at c;replace c:=hid c;clear a;have kk1:=@hid _ @R6;refine wk ?_;exact aa c.o;rw[decide_eq_false q,aqg]at a;replace a:=hid a;have kk1:=@hid _ @R6;refine wk ?_;exact ast aso asr ⟨k+1,rfl,d,a,rfl,rfl⟩;have p:k=l.length:=aso;subst p;have g1:¬(l.length:Int)<(l.length:Int):=aso;have c:=h.o;rw[<- i.o,apM]at c;replace c:=hid c;clear i g;refine wk ?_;exact aa c.o
theorem amV{syn:Int}{l:List (List UInt8)}{cap:Option Nat}{v:List UInt8}(D:l.length<=1100000)(h:K (Ta (ju syn v false l)) L):
  aoX 94 [.int .i64 syn,.sl (l.map AV.str) l.length cap,.str v] L K:=by
 obtain⟨R,r⟩:=aoT (ju syn v false l);rw[r]at h;replace h:=hid h;refine aoW X3 ?_;refine bR (l:=[]) (n:=0) 7 1 rfl (aps 1).symm ?_;refine ak (λm T' L'=>∃(k:Nat) (d:Bool) (u:List (List UInt8)) (C:List AV) (n:Nat),m=l.length-k/\k<=l.length/\n<=k+1/\(d=false->n<=k)/\Hid (C=u.map AV.str/\n=u.length)/\Hid (u++ju syn v d (l.drop k)=R)/\T'=[(13,.int .i64 (k:Int)),(12,.int .i64 l.length),(11,.sl (l.map AV.str) l.length cap),(8,.bool d),(7,.gsl C n L.length 1),(0,.int .i64 syn),(2,.str v)]/\L'=L++[.spare n 1]) ass ⟨0,false,[],[],0,rfl,ao2 _,asp,asp,hid ⟨rfl,rfl⟩,hid (by simpa using r),rfl,rfl⟩ ?_;rintro _ _ _ ⟨k,d,u,C,n,rfl,B,A,i,j,w,rfl,rfl⟩;by_cases f:k<l.length
 .have g1:(k:Int)<(l.length:Int):=aso;have E:=aoV k aso;obtain⟨x,t⟩:=aoT (l.getD k []);have g3:(l.map AV.str).getD k .undef=.str x:=(by rw[<- t];simp[f]);have p:l.drop k=x::l.drop (k+1):=(by rw[apw f,<- t];simp[f]);have a:=w.o;rw[p,ju]at a;clear t p w r;have g:∀(y:List UInt8),(C++[.str y]=(u++[y]).map AV.str/\n+1=(u++[y]).length):=λy=>by obtain⟨rfl,rfl⟩:=j.o;simp
  replace g:=hid g;replace a:=hid a;cases d with
  | true =>
    have b:=a.o;rw[if_neg asp]at b;simp only[apx,aqQ]at b;replace b:=hid b;clear a;have kk1:=@hid _ @R6;refine wk ?_;refine ast aso asr ⟨k+1,true,u++[x],C++[.str x],n+1,rfl,f,aso,asp,hid (g.o x),hid (by simpa using b.o),rfl,rfl⟩
  | false =>
    have q:=i rfl
    repeat' first
     |refine bH ?_
     | (first|refine bv asq ?_|refine aP asq ?_|refine aS ?_|refine cT ?_|refine bJ (fun _=>?_)|refine aH ?_|refine bz ?_|refine R6 ?_|refine bg (R6 ⟨rfl,rfl⟩) (R6 ⟨rfl,rfl⟩) ?_|refine aM (R6 ⟨rfl,rfl⟩) ?_)
       refine sm ?_
     | (first|refine bp asq ?_|refine bm ?_|refine aR ?_|refine bw ?_|refine bP (aG ?_))
       refine sl ?_
     |exact bL
     |first|apply bM|apply bq|apply bN|apply br|apply bO|apply bu
     |refine aV ?_
     |refine aQ ?_
     |first|refine aT rfl ?_|refine aU rfl ?_|refine aB rfl ?_ ?_|refine aX rfl (λ_=>?_) (λ_=>?_)|refine aW rfl (λ_=>?_) (λ_=>?_)
     |((first|refine aA (λ_=>?_) (λ_=>?_)|refine aE (λ_=>?_) (λ_=>?_))<;>try refine sm ?_)
     |refine And.intro trivial ?_
     |refine And.intro aso ?_
     |refine be rfl (λ_=>?_) (λ_=>?_)
     |refine And.intro ?_ ?_
    .rename_i hq;rw[bytesLess_eq,decide_eq_true_eq]at hq;have b:=a.o;rw[if_pos ⟨rfl,hq⟩,decide_eq_true hq,arz]at b;refine ast aso asr ⟨k+1,true,u++[v]++[x],C++[.str v]++[.str x],n+1+1,rfl,f,aso,asp,hid ?_,hid (by simpa using b),rfl,rfl⟩;obtain⟨rfl,rfl⟩:=j.o;simp
    .rename_i hq;rw[bytesLess_eq,decide_eq_false_iff_not]at hq;have b:=a.o;rw[if_neg (λe=>hq e.2),decide_eq_false hq]at b;refine ast aso asr ⟨k+1,false,u++[x],C++[.str x],n+1,rfl,f,aso,aso,hid (g.o x),hid (by simpa using b),rfl,rfl⟩
 have s:k=l.length:=aso;subst s;have g1:¬(l.length:Int)<(l.length:Int):=aso;have a:=w.o;rw[apM,ju]at a;have z:AV.frzL (R.map AV.str)=R.map AV.str:=iU R;have c:∀X:List Blk,Fin L (.sl (R.map AV.str) R.length none) (L++X) K:=λX=>ac (by simp only[AV.refs,i8]) h.o
 replace c:=hid c;cases d with
 | true =>
   rw[if_pos rfl,apG]at a;subst a;refine wk ?_;refine aY ?_;simp only[AV.frz];rw[j.o.1,z,j.o.2];exact c.o _
 | false =>
   rw[if_neg asp]at a;subst a;have q:=i rfl;refine wk ?_;refine aY ?_;simp only[AV.frz];rw[show C++[AV.str v]=(u++[v]).map AV.str by rw[j.o.1];simp,z,show n+1=(u++[v]).length by rw[j.o.2];simp];exact c.o _
theorem Zi(syn:Int)(v:List UInt8):∀(l:List (List UInt8)) (d:Bool),(ju syn v d l).length<=l.length+1
 |[],d=>by rw[ju];split<;>simp
 | x::t,d=>by
   rw[ju];by_cases h:d=false/\gm syn v<gm syn x
   .rw[if_pos h,decide_eq_true h.2,arz,Sc];simp
   .have:=Zi syn v t (d ||decide (gm syn v<gm syn x));rw[if_neg h];simp;omega
theorem amP{ty:Typ}{l vs:List (List UInt8)}{cap d:Option Nat}(B:l.length+vs.length<=1100000){R:List (List UInt8)×Int}(g:ig ty.2.1 ty.2.2.1 l vs=R)(h:K (.tup [Ta R.1,.int .i64 R.2]) L):
  aoX 42 [.agg (tyC ty),.sl (l.map AV.str) l.length cap,.sl (vs.map AV.str) vs.length d] L K:=by
 replace h:=hid h;replace g:=hid g;simp only[tyC];refine aoW ZX ?_;refine ak (λm T' L'=>∃(i:Nat) (u:List (List UInt8)) (p:Option Nat),m=vs.length-i/\i<=vs.length/\u.length<=l.length+i/\Hid (ig ty.2.1 ty.2.2.1 u (vs.drop i)=R)/\T'=[(14,.int .i64 (i:Int)),(13,.int .i64 vs.length),(12,.sl (vs.map AV.str) vs.length d),(1,.sl (u.map AV.str) u.length p),(3,.ptr L.length 0)]/\L'=L++[Blk.cells (tyC ty)]) ass ⟨0,l,cap,rfl,ao2 _,ao0 _,hid (by simpa using g.o),rfl,rfl⟩ ?_;rintro _ _ _ ⟨i,u,p,rfl,C,A,q,rfl,rfl⟩;simp only[tyC];by_cases c:i<vs.length
 .have g1:(i:Int)<(vs.length:Int):=aso;have D:=aoV i aso;obtain⟨v,w⟩:=aoT (vs.getD i []);have g3:(vs.map AV.str).getD i .undef=.str v:=(by rw[<- w];simp[c]);have j:vs.drop i=v::vs.drop (i+1):=(by rw[apw c,<- w];simp[c]);have a:=q.o;rw[j]at a;have f:u.length<=1100000:=aso;clear w j q g;refine wk ?_;refine WS ?_;rcases hn:dl ty.2.1 v with _|n;rw[ahP hn]at a;have b:=h.o;rw[<- a]at b;replace b:=hid b;simp only[kg];clear a hn;refine asw ?_;exact aY (ac rfl b.o);rw[ahO hn]at a;simp only[kg];rcases hb:inM ty.2.1 u n with _|_
  rotate_left
  rw[if_pos hb]at a;have b:=h.o;rw[<- a]at b;replace b:=hid b;clear a hn;refine sk ?_;have kk1:=@asv _ _ _ _ (anW (syn:=ty.2.1) (n:=n) (cap:=p) f);refine wk ?_;exact aY (ac rfl b.o);rw[if_neg (by rw[hb];simp)]at a;obtain⟨y,t⟩:=aoT (ju ty.2.1 v false u);have s:=Zi ty.2.1 v u false;rw[t]at a s;replace a:=hid a;clear hn;refine sk ?_;have kk1:=@asv _ _ _ _ (anW (syn:=ty.2.1) (n:=n) (cap:=p) f);have kk2:=@asv _ _ _ _ (amV (syn:=ty.2.1) (v:=v) (cap:=p) f);refine wk ?_;exact ast aso asr ⟨i+1,y,none,rfl,c,aso,a,rfl,rfl⟩
 have x:i=vs.length:=aso;subst x;have g1:¬(vs.length:Int)<(vs.length:Int):=aso;have a:=q.o;rw[apM,ig]at a;by_cases k:ty.2.2.1=true/\1<u.length;rw[if_pos k]at a;have b:=h.o;rw[<- a]at b;replace b:=hid b;obtain⟨z,r⟩:=k;have g3:(1:Int)<(u.length:Int):=aso;clear q a g r;refine wk ?_;exact aY (ac rfl b.o);rw[if_neg k]at a;have g3:(ty.2.2.1&&decide ((1:Int)<(u.length:Int)))=false:=by rcases hsg:ty.2.2.1 with _|_;rfl;simp only[apy,decide_eq_false_iff_not];intro e;exact k ⟨hsg,aso⟩
 have b:=h.o;rw[<- a]at b;replace b:=hid b;clear q a g k;refine wk ?_;refine aY (ac ?_ ?_);simp only[AV.frz,AV.frzL,iU,AV.refs,AV.refsL,i8];rfl;simp only[AV.frz,AV.frzL,iU];exact b.o
theorem aaY{l:List Atr}{cap:Option Nat}{n:List UInt8}(y:l.length<=1100000)(t:∀a∈l,bI a.1/\a.2.length<=1100000)(s:bI n)(h:K (Ta (gp l n)) L):
  aoX 29 [.sl (aJ l) l.length cap,.str n] L K:=by
 obtain⟨R,e⟩:=aoT (gp l n);rw[e]at h;replace h:=hid h;replace e:=hid e;refine aoW VP ?_;refine ak (λm T' L'=>∃(k:Nat) (X:List Blk),m=l.length-k/\k<=l.length/\Hid (gp (l.drop k) n=R)/\T'=[(9,.int .i64 (k:Int)),(8,.int .i64 l.length),(7,.sl (aJ l) l.length cap),(1,.str n)]/\L'=L++X) ass ⟨0,[],rfl,ao2 _,hid (by simpa using e.o),rfl,asp⟩ ?_;rintro _ _ _ ⟨k,X,rfl,v,i,rfl,rfl⟩;by_cases c:k<l.length;have g1:(k:Int)<(l.length:Int):=aso;have x:=aoV k aso;have r:=jD c;have w:k*2+2<=(aJ l).length:=by rw[iH];omega
 obtain⟨⟨nm,vs⟩,g⟩:∃a,l.getD k ([],[])=a:=⟨_,rfl⟩;have f:l.drop k=(nm,vs)::l.drop (k+1):=by rw[apw c,<- g];simp[c]
 obtain⟨d,p⟩:=t (nm,vs) (by rw[<- g];simp[c]);simp only at d p;rw[g]at r;simp only[atA]at r;have b:=i.o;rw[f,gp]at b;simp only at b;clear i f g t e;by_cases q:aj nm=aj n;rw[if_pos q]at b;subst b;have u:AV.frzL (vs.map AV.str)=vs.map AV.str:=iU vs;have kk1:=@asv _ _ _ _ (cX d);have kk2:=@asv _ _ _ _ (cX s);refine wk ?_;refine aY ?_;simp only[AV.frz,u];exact ac (by simp only[AV.refs,i8]) h.o;rw[if_neg q]at b;replace b:=hid b;have kk1:=@asv _ _ _ _ (cX d);have kk2:=@asv _ _ _ _ (cX s);refine wk ?_;exact ast aso asr ⟨k+1,_,rfl,c,b,rfl,rfl⟩;have j:k=l.length:=aso;subst j;have g1:¬(l.length:Int)<(l.length:Int):=aso;have b:=i.o;rw[apM,gp]at b;subst b;refine wk ?_;exact aY (ac rfl h.o)
theorem amM{l:List Atr}{cap y:Option Nat}{n:List UInt8}{vs:List (List UInt8)}(Z:l.length<=1100000)(S:∀a∈l,bI a.1/\a.2.length<=1100000)(B:bI n)(h:K (.sl (aJ (rV n vs vs.isEmpty l)) (rV n vs vs.isEmpty l).length none) L):
  aoX 43 [.sl (aJ l) l.length cap,.str n,.sl (vs.map AV.str) vs.length y] L K:=by
 obtain⟨R,A⟩:=aoT (rV n vs vs.isEmpty l);rw[A]at h;replace h:=hid h;obtain⟨Q,x⟩:=aoT (vs.isEmpty);have v:decide ((vs.length:Int)=0)=Q:=by rw[<- x];cases vs<;>simp;omega
 rw[x]at A;replace A:=hid A;have V:AV.frzL (vs.map AV.str)=vs.map AV.str:=iU vs;replace x:=hid x;refine aoW ZY ?_;refine bR (l:=[]) (n:=0) 7 2 rfl (aps 2).symm ?_;refine ak (λm T' L'=>∃(k:Nat) (d:Bool) (u:List Atr) (C:List AV) (z:Nat) (X:List Blk),m=l.length-k/\k<=l.length/\z<=k+1/\(d=false->z<=k)/\Hid (C=aJ u/\z=u.length)/\Hid (u++rV n vs d (l.drop k)=R)/\T'=[(16,.int .i64 (k:Int)),(15,.int .i64 l.length),(14,.sl (aJ l) l.length cap),(8,.bool d),(7,.gsl C z L.length 2),(1,.str n),(2,.sl (vs.map AV.str) vs.length y)]/\L'=L++(.spare z 2::X)) ass ⟨0,Q,[],[],0,[],rfl,ao2 _,asp,asp,hid ⟨rfl,rfl⟩,hid (by simpa using A.o),rfl,rfl⟩ ?_;rintro _ _ _ ⟨k,d,u,C,z,X,rfl,U,T,p,t,G,rfl,rfl⟩;by_cases f:k<l.length;have g1:(k:Int)<(l.length:Int):=aso;have Y:=aoV k aso;have N:=jD f;have W:k*2+2<=(aJ l).length:=by rw[iH];omega
 obtain⟨⟨nm,g⟩,F⟩:∃a,l.getD k ([],[])=a:=⟨_,rfl⟩;have E:l.drop k=(nm,g)::l.drop (k+1):=by rw[apw f,<- F];simp[f]
 obtain⟨j,M⟩:=S (nm,g) (by rw[<- F];simp[f]);simp only at j M;rw[F]at N;simp only[atA]at N;have ew:AV.frzL (g.map AV.str)=g.map AV.str:=iU g;have c:=G.o;rw[E,rV]at c;simp only at c;have i:∀(I:List AV) (D:List Atr) (J:Nat) (a:Atr),I=aJ D/\J=D.length->I++[.str a.1,.sl (a.2.map AV.str) a.2.length none]=aJ (D++[a])/\J+1=(D++[a]).length:=λI D J a e=>by obtain⟨rfl,rfl⟩:=e;simp[VZ,aJ]
 replace i:=hid i;replace v:=hid v;clear G E F S A;by_cases r:aj nm<aj n;have w:aj n≠aj nm:=λe=>by rw[e]at r;exact aqH _ r
 have P:Op.bytesLess (aj n) (aj nm)=false:=by rw[bytesLess_eq,decide_eq_false_iff_not];exact λe=>aqH _ (List.lt_trans r e)
 cases d with
 | true =>
   have b:=c;rw[if_neg (λe=>by cases e.1),if_pos w]at b;rw[show(true || !decide (aj nm<aj n))=true by simp[r]]at b;replace b:=hid b;clear c;have kk1:=@asv _ _ _ _ (cX B);have kk2:=@asv _ _ _ _ (cX j);refine wk ?_;exact ast aso asr ⟨k+1,true,u++[(nm,g)],C++[.str nm,.sl (g.map AV.str) g.length none],z+1,_,rfl,f,aso,asp,hid (i.o _ _ _ (nm,g) t.o),hid (by simpa using b.o),rfl,rfl⟩
 | false =>
   have s:=p rfl;have b:=c;rw[if_neg (λe=>e.2 r),if_pos w]at b;rw[show(false || !decide (aj nm<aj n))=false by simp[r]]at b;replace b:=hid b;clear c;have kk1:=@asv _ _ _ _ (cX B);have kk2:=@asv _ _ _ _ (cX j);refine wk ?_;exact ast aso asr ⟨k+1,false,u++[(nm,g)],C++[.str nm,.sl (g.map AV.str) g.length none],z+1,_,rfl,f,aso,by simp;omega,hid (i.o _ _ _ (nm,g) t.o),hid (by simpa using b.o),rfl,rfl⟩
 by_cases w:aj n=aj nm;have P:Op.bytesLess (aj n) (aj nm)=false:=by rw[bytesLess_eq,decide_eq_false_iff_not,w];exact aqH _
 cases d with
 | true =>
   have b:=c;rw[if_neg (λe=>by cases e.1),if_neg (λe=>e w)]at b;rw[show(true || !decide (aj nm<aj n))=true by simp[r]]at b;replace b:=hid b;clear c;have kk1:=@asv _ _ _ _ (cX B);have kk2:=@asv _ _ _ _ (cX j);refine wk ?_;exact ast aso asr ⟨k+1,true,u,C,z,_,rfl,f,aso,asp,hid t.o,hid (by simpa using b.o),rfl,rfl⟩
 | false =>
   have s:=p rfl;have b:=c;rw[if_pos ⟨rfl,r⟩,if_neg (λe=>e w)]at b;rw[show(false || !decide (aj nm<aj n))=true by simp[r]]at b;replace b:=hid b;clear c;have kk1:=@asv _ _ _ _ (cX B);have kk2:=@asv _ _ _ _ (cX j);refine wk ?_;exact ast aso asr ⟨k+1,true,u++[(n,vs)],C++[.str n,.sl (vs.map AV.str) vs.length none],z+1,_,rfl,f,aso,asp,hid (i.o _ _ _ (n,vs) t.o),hid (by simpa using b.o),rfl,rfl⟩
 have P:Op.bytesLess (aj n) (aj nm)=true:=by rw[bytesLess_eq,decide_eq_true_eq];exact(List.le_iff_lt_or_eq.1 (aq8.1 r)).resolve_right w
 cases d with
 | true =>
   have b:=c;rw[if_neg (λe=>by cases e.1),if_pos w]at b;rw[show(true || !decide (aj nm<aj n))=true by simp[r]]at b;replace b:=hid b;clear c;have kk1:=@asv _ _ _ _ (cX B);have kk2:=@asv _ _ _ _ (cX j);refine wk ?_;exact ast aso asr ⟨k+1,true,u++[(nm,g)],C++[.str nm,.sl (g.map AV.str) g.length none],z+1,_,rfl,f,aso,asp,hid (i.o _ _ _ (nm,g) t.o),hid (by simpa using b.o),rfl,rfl⟩
 | false =>
   have s:=p rfl;have b:=c;rw[if_pos ⟨rfl,r⟩,if_pos w]at b;rw[show(false || !decide (aj nm<aj n))=true by simp[r]]at b;replace b:=hid b;clear c;have kk1:=@asv _ _ _ _ (cX B);have kk2:=@asv _ _ _ _ (cX j);refine wk ?_;exact ast aso asr ⟨k+1,true,u++[(n,vs)]++[(nm,g)],C++[.str n,.sl (vs.map AV.str) vs.length none]++[.str nm,.sl (g.map AV.str) g.length none],z+1+1,_,rfl,f,aso,asp,hid (i.o _ _ _ (nm,g) (i.o _ _ _ (n,vs) t.o)),hid (by simpa using b.o),rfl,rfl⟩
 have H:k=l.length:=aso;subst H;have g1:¬(l.length:Int)<(l.length:Int):=aso;have c:=G.o;rw[apM,rV]at c;have O:=fi R;have q:∀X:List Blk,Fin L (.sl (aJ R) R.length none) (L++X) K:=λX=>ac (by simp only[AV.refs,kk]) h.o
 replace q:=hid q;replace v:=hid v;clear G A;cases d with
 | true =>
   rw[if_pos rfl,apG]at c;subst c;refine wk ?_;refine aY ?_;simp only[AV.frz];rw[t.o.1,O,t.o.2];exact q.o _
 | false =>
   rw[if_neg asp]at c;subst c;have s:=p rfl;refine wk ?_;refine aY ?_;simp only[AV.frz];rw[show C++[AV.str n,.sl (vs.map AV.str) vs.length none]=aJ (u++[(n,vs)])by rw[t.o.1,VZ];simp[aJ],O,show z+1=(u++[(n,vs)]).length by rw[t.o.2];simp];exact q.o _
theorem ak8{ts:List Typ}{y:Option Nat}{c2:List AV}{Z:Nat}{w:Option Nat}{b:List Atr}{cap:Option Nat}(u:aki ts)(hl:b.length<=100)(S:∀a∈b,bI a.1/\a.2.length<=9000){R:List Atr×Int}(F:wo ts [] b=R)(h:K (.tup [.sl (aJ R.1) R.1.length none,.int .i64 R.2]) L):
  aoX 14 [.agg [.sl (cU ts) ts.length y,.sl c2 Z w],.sl (aJ b) b.length cap] L K:=by
 replace h:=hid h;replace F:=hid F;refine aoW X5 ?_;obtain⟨sC,P⟩:=aoT (AV.sl c2 Z w);rw[P];refine ak (λm T' L'=>∃(i:Nat) (out:List Atr) (M:Option Nat) (X:List Blk),m=b.length-i/\i<=b.length/\out.length<=i/\Hid (wo ts out (b.drop i)=R)/\Hid (∀a∈out,bI a.1/\a.2.length<=9000*i)/\T'=[(14,.int .i64 (i:Int)),(13,.int .i64 b.length),(12,.sl (aJ b) b.length cap),(6,.sl (aJ out) out.length M),(2,.ptr L.length 0)]/\L'=L++(.cells [.sl (cU ts) ts.length y,sC]::X)) ass ⟨0,[],some 0,[],rfl,ao2 _,ao0 _,hid (by simpa using F.o),hid asp,rfl,asp⟩ ?_;rintro _ _ _ ⟨i,out,M,X,rfl,hi,ad,N,D,rfl,rfl⟩;by_cases r:i<b.length;have g1:(i:Int)<(b.length:Int):=aso;have g2:=aoV i aso;have U:=jD r;have e4:i*2+2<=(aJ b).length:=by rw[iH];omega
 obtain⟨⟨nm,vs⟩,k⟩:∃a,b.getD i ([],[])=a:=⟨_,rfl⟩;have G:b.drop i=(nm,vs)::b.drop (i+1):=by rw[apw r,<- k];simp[r]
 obtain⟨C,T⟩:=S (nm,vs) (by rw[<- k];simp[r]);simp only at C T;rw[k]at U;simp only[atA]at U;have d:=N.o;rw[G,wo]at d;simp only at d;replace d:=hid d;clear N G k S F;refine wk ?_;refine aoP u.1 u.2.1 C (λj=>?_) (λt Y j=>?_);have c:=d.o;rw[j]at c;simp only at c;have g:=h.o;rw[<- c]at g;replace g:=hid g;clear d c j;refine asw ?_;exact aY (ac rfl g.o);have c:=d.o;have e5:=N9 Y;have e6:t*4+4<=(cU ts).length:=by rw[SX];omega
 have e8:(cU ts).getD (t*4) .undef=.str (ts.getD t Ef).1:=by have W:=congrArg (λl=>l[0]?) (N9 Y);simp only[ap5 (show 0<4 by omega),apY,aqe]at W;rw[apo,W];rfl
 have g3:¬(t:Int)<0:=aso;have g4:(t:Int)<(ts.length:Int):=aso;have g6:t*4<(cU ts).length:=aso;have n:=Oa j;obtain⟨ty,v⟩:=aoT (ts.getD t Ef);rw[v]at j e5 e8 n;rw[j]at c;simp only at c;simp only[tyC]at e5;by_cases s:vs=[];rw[if_pos s]at c;have g:=h.o;rw[<- c]at g;replace g:=hid g;subst s;clear d c j n v;refine asw ?_;exact aY (ac rfl g.o);rw[if_neg s]at c;have g5:¬(vs.length:Int)=0:=by rcases vs with _|⟨x,t⟩;exact absurd rfl s;simp;omega
 obtain⟨V,H⟩:=aoT (gp out nm);have ai:V.length<=9000*i:=by rw[<- H];exact aev λa k=>(D.o a k).2
 rw[H]at c;obtain⟨A,E⟩:=aoT (ig ty.2.1 ty.2.2.1 V vs);rw[E]at c;have kk1:Hid (Ctr Tryz.prog 29 [.sl (aJ out) out.length M,.str nm] (.sl (V.map AV.str) V.length none)):=hid λq=>aaY aso (λa k=>⟨(D.o a k).1,by have:=(D.o a k).2;omega⟩) C (by rw[H];exact q)
 have kk2:Hid (Ctr Tryz.prog 42 [.agg [.str ty.1,.int .i64 ty.2.1,.bool ty.2.2.1,.bool ty.2.2.2],.sl (V.map AV.str) V.length none,.sl (vs.map AV.str) vs.length none] (.tup [.sl (A.1.map AV.str) A.1.length none,.int .i64 A.2])):=hid λq=>amP (ty:=ty) aso E q
 have kk3:Hid (Ctr Tryz.prog 43 [.sl (aJ out) out.length M,.str ty.1,.sl (A.1.map AV.str) A.1.length none] (.sl (aJ (rV ty.1 A.1 A.1.isEmpty out)) (rV ty.1 A.1 A.1.isEmpty out).length none)):=hid λq=>amM aso (λa k=>⟨(D.o a k).1,by have:=(D.o a k).2;omega⟩) (u.2.1 ty n.1) q
 obtain⟨O,A2⟩:=A;simp only at kk2 kk3 c;obtain⟨p,f⟩:=aoT (rV ty.1 O O.isEmpty out);rw[f]at kk3 c;clear d s j;by_cases J:A2=0;subst J;rw[if_neg asp]at c;have z:=aak (by rw[E]:(ig ty.2.1 ty.2.2.1 V vs).2=0);rw[E]at z;simp only at z;have I:p.length<=i+1:=by have:=@abL ty.1 O O.isEmpty out;rw[f]at this;split at this<;>omega
 have B:∀a∈p,bI a.1/\a.2.length<=9000*(i+1):=λa k=>by rw[<- f]at k;rcases YM k with e|e;rw[e];exact⟨u.2.1 ty n.1,by simp only;omega⟩;have:=D.o a e;exact⟨this.1,aso⟩
 replace c:=hid c;replace B:=hid B;clear E H f z n v;refine asw ?_;exact ast aso asr ⟨i+1,p,none,_,rfl,r,I,c,B,rfl,rfl⟩;rw[if_pos J]at c;have g:=h.o;rw[<- c]at g;replace g:=hid g;clear E H f n c v;refine asw ?_;exact aY (ac rfl g.o);have Q:i=b.length:=aso;subst Q;have g1:¬(b.length:Int)<(b.length:Int):=aso;have d:=N.o;rw[apM,wo]at d;have g:=h.o;rw[<- d]at g;replace g:=hid g;clear N d F S;have e0:=fi out;refine wk ?_;refine aY ?_;simp only[AV.frz,AV.frzL,e0];exact ac (by simp only[AV.refs,AV.refsL,kk];rfl) g.o
theorem ajh{ts:List Typ}{B:Nat}:∀{l out:List Atr}{i:Nat},out.length<=i->(∀a∈out,a.2.length<=B*i)->(∀a∈l,a.2.length<=B)->(wo ts out l).1.length<=i+l.length/\∀a∈(wo ts out l).1,a.2.length<=B*(i+l.length)
 |[],out,i,h1,h2,_=>by rw[wo];exact⟨h1,h2⟩
 | x::t,out,i,h1,h2,h3=>by
   have nil:([]:List Atr).length<=i+(x::t).length/\∀a∈([]:List Atr),a.2.length<=B*(i+(x::t).length):=⟨asp,λa b=>by cases b⟩;rw[wo];rcases hty:gX ts x.1 with _|ty
   .omega
   .simp only;split
    .omega
    .split
     .omega
     .rename_i hd;simp only[ne_eq,arD]at hd;have c:=aak hd;have f:=aev (l:=out) (n:=x.1) h2;have d:=h3 x asp;have g:=Nat.mul_add_one B i;have:=@ajh ts B t (rV ty.1 (ig ty.2.1 ty.2.2.1 (gp out x.1) x.2).1 (ig ty.2.1 ty.2.2.1 (gp out x.1) x.2).1.isEmpty out) (i+1) (by
       have:=@abL ty.1 (ig ty.2.1 ty.2.2.1 (gp out x.1) x.2).1 (ig ty.2.1 ty.2.2.1 (gp out x.1) x.2).1.isEmpty out;split at this<;>omega) (λa b=>by
       rcases YM b with e|e
       .rw[e];simp only;omega
       .have:=h2 a e;omega) (λa b=>h3 a (by simp[b]))
      grind
end Go.Proofs.YtdnfjhflkkpokaaGreatDoor.Av
set_option maxRecDepth 100000
namespace Go.Proofs.YtdnfjhflkkpokaaGreatDoor.Av
open Go
def Gr:LSO:=[Ak 6]
def Gq:LSO:=[Aa 9 2,Ah 10 9,Ac 11 0]
def Gp:LSO:=[Al 12 11 10]
def Gn:LSO:=[Am 13 1 9 11,Ab 14 1 13,Aa 8 14]
def Gm:LSO:=[Aa 15 0,Aa 16 8,Aa 17 1,o1 18 (.build [(.str []),(.int .i64 0),(.bool false),(.bool false)] [(0,(1,(tm 16))),(1,(1,(tm 17)))]),BY 19 18,BZ 20 15 19,
 Aa 0 20]
def Gl:LSO:=[Ai 21 11 1,Aa 11 21]
def Gk:LSO:=[Aa 22 0,Aa 6 22]
def wC:aK:=⟨23,(ash Gr [] (.seq (ash Gq [] (ask 0 (ash Gp [] (.seq (asl 12 0) (.seq (.block 1 (ash Gn C6 (.sreg Gm CC))) (.sreg Gl C4)))))) (ash Gk C4 .ret))),[(.tmp 6)]⟩
attribute [push_cast] Gr Gq Gp Gn Gm Gl Gk
theorem Wv:asm 44=asn wC:=asq
def K5:LSO:=[C0 0]
def K4:LSO:=[C0 1]
def K3:LSO:=[Ad 5 0 1,Ab 6 1 5,o1 7 (.bslice false 1 1 [(.str [])] [(0,(1,(.av (.str [111,98,106,101,99,116,67,108,97,115,115]))))]),B6 8 44 6 3 7,Ad 9 0 1,Ap 1 9 8]
def K2:LSO:=[Ad 10 0 1,Ab 11 1 10,
 o1 12 (.bslice false 1 4 [(.str []),(.str []),(.str []),(.str [])] [(0,(1,(.av (.str [99,110])))),(1,(1,(.av (.str [115,110])))),(2,(1,(.av (.str [111,117])))),(3,(1,(.av (.str [111]))))]),
 B6 13 44 11 1 12,Ad 14 0 1,Ap 1 14 13]
def K1:LSO:=[Ad 15 0 1,Ab 16 1 15,
 o1 17 (.bslice false 1 3 [(.str []),(.str []),(.str [])] [(0,(1,(.av (.str [100,99])))),(1,(1,(.av (.str [117,105,100])))),(2,(1,(.av (.str [109,97,105,108]))))]),
 B6 18 44 16 3 17,Ad 19 0 1,Ap 1 19 18]
def K0:LSO:=[Ad 20 0 1,Ab 21 1 20,BH 22,B6 23 44 21 1 22,Ad 24 0 1,Ap 1 24 23]
def KZ:LSO:=[Ad 25 0 1,Ab 26 1 25,o1 27 (.bslice false 1 1 [(.str [])] [(0,(1,(.av (.str [109,101,109,98,101,114]))))]),B6 28 44 26 6 27,Ad 29 0 1,Ap 1 29 28]
def KY:LSO:=[Ad 30 0 1,Ab 31 1 30,o1 32 (.bslice false 1 1 [(.str [])] [(0,(1,(.av (.str [117,115,101,114,80,97,115,115,119,111,114,100]))))]),B6 33 44 31 7 32,
 Ad 34 0 1,Ap 1 34 33]
def KX:LSO:=[Ad 35 0 1,Ab 36 1 35,
 o1 37 (.build [(.str []),(.int .i64 0),(.bool false),(.bool false)] [(0,(1,(.av (.str [101,109,112,108,111,121,101,101,78,117,109,98,101,114])))),(1,(1,(iv 4))),(2,(1,(.av (.bool true))))]),
 BY 38 37,BZ 39 36 38,Ad 40 0 1,Ap 1 40 39]
def KW:LSO:=[Ad 41 0 1,Ab 42 1 41,
 o1 43 (.build [(.str []),(.int .i64 0),(.bool false),(.bool false)] [(0,(1,(.av (.str [97,99,116,105,118,101])))),(1,(1,(iv 5))),(2,(1,(.av (.bool true))))]),BY 44 43,
 BZ 45 42 44,Ad 46 0 1,Ap 1 46 45]
def GM:LSO:=[o1 47 (.bslice false 1 5 [(.str []),(.str []),(.str []),(.str []),(.str [])] [(0,(1,(.av (.str [99,114,101,97,116,101,100,65,116])))),(1,(1,(.av (.str [99,104,97,110,103,101,100,65,116])))),(2,(1,(.av (.str [112,119,100,70,97,105,108,117,114,101])))),(3,(1,(.av (.str [112,119,100,76,111,99,107,101,100])))),(4,(1,(.av (.str [112,119,100,67,104,97,110,103,101,100]))))]),
 Ah 48 47,Ac 49 0]
def GK:LSO:=[Al 50 49 48]
def GJ:LSO:=[Am 51 1 47 49,Ab 52 1 51,Aa 3 52]
def GI:LSO:=[Aa 53 3,
 o1 54 (.build [(.str []),(.int .i64 0),(.bool false),(.bool false)] [(0,(1,(tm 53))),(1,(1,(iv 4))),(2,(1,(.av (.bool true)))),(3,(1,(.av (.bool true))))]),Bx 4,Ap 4 4 54]
def GH:LSO:=[Aa 55 3,o1 56 (.bin .eql (tm 55) (.av (.str [112,119,100,70,97,105,108,117,114,101])))]
def GF:LSO:=[Ad 57 1 4,Ca 1 57 3]
def GE:LSO:=[Ad 58 2 4,o0 (.store 1 (tm 58) (.av (.bool false)))]
def GD:LSO:=[Ad 59 0 1,Ab 60 1 59,As 61 4 4,BY 62 61,BZ 63 60 62,Ad 64 0 1,Ap 1 64 63]
def GC:LSO:=[Ai 65 49 1,Aa 49 65]
def GB:LSO:=[Ad 66 1 1,Ab 67 1 66,o1 68 (.bslice false 1 1 [(.str [])] [(0,(1,(.av (.str [111,98,106,101,99,116,67,108,97,115,115]))))]),
 o1 69 (.bslice false 1 5 [(.str []),(.str []),(.str []),(.str []),(.str [])] [(0,(1,(.av (.str [99,114,101,97,116,101,100,65,116])))),(1,(1,(.av (.str [99,104,97,110,103,101,100,65,116])))),(2,(1,(.av (.str [112,119,100,70,97,105,108,117,114,101])))),(3,(1,(.av (.str [112,119,100,76,111,99,107,101,100])))),(4,(1,(.av (.str [112,119,100,67,104,97,110,103,101,100]))))]),
 o1 70 (.build [(.str []),(.str []),(.int .i64 0),(.sl [] 0 (some 0)),(.sl [] 0 (some 0))] [(0,(1,(.av (.str [116,111,112])))),(3,(1,(tm 68))),(4,(1,(tm 69)))]),Bn 71 70,
 Bo 72 67 71,Ad 73 1 1,Ap 1 73 72]
def GA:LSO:=[Ad 74 1 1,Ab 75 1 74,o1 76 (.bslice false 1 1 [(.str [])] [(0,(1,(.av (.str [100,99]))))]),BH 77,
 o1 78 (.build [(.str []),(.str []),(.int .i64 0),(.sl [] 0 (some 0)),(.sl [] 0 (some 0))] [(0,(1,(.av (.str [100,111,109,97,105,110])))),(1,(1,(.av (.str [116,111,112])))),(2,(1,(iv 1))),(3,(1,(tm 76))),(4,(1,(tm 77)))]),
 Bn 79 78,Bo 80 75 79,Ad 81 1 1,Ap 1 81 80]
def Gz:LSO:=[Ad 82 1 1,Ab 83 1 82,o1 84 (.bslice false 1 1 [(.str [])] [(0,(1,(.av (.str [111]))))]),BH 85,
 o1 86 (.build [(.str []),(.str []),(.int .i64 0),(.sl [] 0 (some 0)),(.sl [] 0 (some 0))] [(0,(1,(.av (.str [111,114,103,97,110,105,122,97,116,105,111,110])))),(1,(1,(.av (.str [116,111,112])))),(2,(1,(iv 1))),(3,(1,(tm 84))),(4,(1,(tm 85)))]),
 Bn 87 86,Bo 88 83 87,Ad 89 1 1,Ap 1 89 88]
def Gy:LSO:=[Ad 90 1 1,Ab 91 1 90,o1 92 (.bslice false 1 1 [(.str [])] [(0,(1,(.av (.str [111,117]))))]),BH 93,
 o1 94 (.build [(.str []),(.str []),(.int .i64 0),(.sl [] 0 (some 0)),(.sl [] 0 (some 0))] [(0,(1,(.av (.str [111,114,103,97,110,105,122,97,116,105,111,110,97,108,85,110,105,116])))),(1,(1,(.av (.str [116,111,112])))),(2,(1,(iv 1))),(3,(1,(tm 92))),(4,(1,(tm 93)))]),
 Bn 95 94,Bo 96 91 95,Ad 97 1 1,Ap 1 97 96]
def Gx:LSO:=[Ad 98 1 1,Ab 99 1 98,o1 100 (.bslice false 1 2 [(.str []),(.str [])] [(0,(1,(.av (.str [99,110])))),(1,(1,(.av (.str [115,110]))))]),
 o1 101 (.bslice false 1 2 [(.str []),(.str [])] [(0,(1,(.av (.str [100,101,115,99,114,105,112,116,105,111,110])))),(1,(1,(.av (.str [117,115,101,114,80,97,115,115,119,111,114,100]))))]),
 o1 102 (.build [(.str []),(.str []),(.int .i64 0),(.sl [] 0 (some 0)),(.sl [] 0 (some 0))] [(0,(1,(.av (.str [112,101,114,115,111,110])))),(1,(1,(.av (.str [116,111,112])))),(2,(1,(iv 1))),(3,(1,(tm 100))),(4,(1,(tm 101)))]),
 Bn 103 102,Bo 104 99 103,Ad 105 1 1,Ap 1 105 104]
def Gw:LSO:=[Ad 106 1 1,Ab 107 1 106,
 o1 108 (.bslice false 1 4 [(.str []),(.str []),(.str []),(.str [])] [(0,(1,(.av (.str [117,105,100])))),(1,(1,(.av (.str [109,97,105,108])))),(2,(1,(.av (.str [101,109,112,108,111,121,101,101,78,117,109,98,101,114])))),(3,(1,(.av (.str [97,99,116,105,118,101]))))]),
 o1 109 (.build [(.str []),(.str []),(.int .i64 0),(.sl [] 0 (some 0)),(.sl [] 0 (some 0))] [(0,(1,(.av (.str [105,110,101,116,80,101,114,115,111,110])))),(1,(1,(.av (.str [112,101,114,115,111,110])))),(2,(1,(iv 1))),(4,(1,(tm 108)))]),
 Bn 110 109,Bo 111 107 110,Ad 112 1 1,Ap 1 112 111]
def Gv:LSO:=[Ad 113 1 1,Ab 114 1 113,o1 115 (.bslice false 1 2 [(.str []),(.str [])] [(0,(1,(.av (.str [99,110])))),(1,(1,(.av (.str [109,101,109,98,101,114]))))]),
 BH 116,
 o1 117 (.build [(.str []),(.str []),(.int .i64 0),(.sl [] 0 (some 0)),(.sl [] 0 (some 0))] [(0,(1,(.av (.str [103,114,111,117,112])))),(1,(1,(.av (.str [116,111,112])))),(2,(1,(iv 1))),(3,(1,(tm 115))),(4,(1,(tm 116)))]),
 Bn 118 117,Bo 119 114 118,Ad 120 1 1,Ap 1 120 119]
def Gu:LSO:=[Ad 121 1 1,Ab 122 1 121,o1 123 (.bslice false 1 1 [(.str [])] [(0,(1,(.av (.str [117,115,101,114,80,97,115,115,119,111,114,100]))))]),
 o1 124 (.build [(.str []),(.str []),(.int .i64 0),(.sl [] 0 (some 0)),(.sl [] 0 (some 0))] [(0,(1,(.av (.str [115,101,99,117,114,101,100])))),(1,(1,(.av (.str [116,111,112])))),(2,(1,(iv 2))),(3,(1,(tm 123)))]),
 Bn 125 124,Bo 126 122 125,Ad 127 1 1,Ap 1 127 126]
def Gt:LSO:=[Ad 128 1 1,Ab 129 1 128,o1 130 (.bslice false 1 2 [(.str []),(.str [])] [(0,(1,(.av (.str [117,105,100])))),(1,(1,(.av (.str [109,97,105,108]))))]),
 o1 131 (.build [(.str []),(.str []),(.int .i64 0),(.sl [] 0 (some 0)),(.sl [] 0 (some 0))] [(0,(1,(.av (.str [108,97,98,101,108,108,101,100])))),(1,(1,(.av (.str [116,111,112])))),(2,(1,(iv 2))),(4,(1,(tm 130)))]),
 Bn 132 131,Bo 133 129 132,Ad 134 1 1,Ap 1 134 133]
def Gs:LSO:=[As 135 2 1,Ap 2 0 135]
def E8:aK:=⟨136,(ash K5 [] (ash K4 [] (ash K3 CQ (ash K2 CQ (ash K1 CQ (ash K0 CQ (ash KZ CQ (ash KY CQ (ash KX Dh (ash KW Dh (.seq (ash GM [] (ask 0 (ash GK [] (.seq (asl 50 0) (.seq (.block 1 (ash GJ C6 (ash GI C6 (.seq (ash GH C4 (asi 56 (ash GF [false] (.sreg GE [false])) .skip)) (.sreg GD Dh))))) (.sreg GC C4)))))) (ash GB CO (ash GA CO (ash Gz CO (ash Gy CO (ash Gx CO (ash Gw CT (ash Gv CO (ash Gu CT (ash Gt CT (ash Gs [false] .ret))))))))))))))))))))),[(.cell true 2 0)]⟩
attribute [push_cast] K5 K4 K3 K2 K1 K0 KZ KY KX KW GM GK GJ GI GH GF GE GD GC GB GA Gz Gy Gx Gw Gv Gu Gt Gs
theorem X6:asm 15=asn E8:=asq
attribute [push_cast] wC
variable {L:List Blk}{K:aoY}
set_option maxHeartbeats 8000000
set_option maxRecDepth 1000000
abbrev tnC(syn:Int)(nm:List UInt8):List AV:=[.str nm,.int .i64 syn,.bool false,.bool false]
theorem agQ{α:Type}{L:List α}{p:Nat}{b:α}(h:L[p]?=some b):L.set p b=L:=by apply aqZ;intro i;rw[apB];split;rename_i e;subst e;rw[h,if_pos (aoZ.1 h).1];rfl
theorem akK{C:List AV}{n p:Nat}{syn:Int}{names:List (List UInt8)}{cap:Option Nat}(y:n+names.length<=1100000)(s:L[p]?=some (.spare n 4))(h:K (.gsl (C++names.flatMap (tnC syn)) (n+names.length) p 4) (L.set p (.spare (n+names.length) 4))):
  aoX 44 [.gsl C n p 4,.int .i64 syn,.sl (names.map AV.str) names.length cap] L K:=by
 have l:p<L.length:=(aoZ.1 s).1;have e:∀b,(L.set p b)[p]?=some b:=λb=>by simp[l]
 replace h:=hid h;refine aoW Wv ?_;refine ak (λm T' L'=>∃(j z:Nat) (D:List AV) (M:List Blk),m=names.length-j/\j<=names.length/\z=n+j/\Hid (D=C++(names.take j).flatMap (tnC syn))/\Hid (M=L.set p (.spare z 4))/\T'=[(11,.int .i64 (j:Int)),(10,.int .i64 names.length),(9,.sl (names.map AV.str) names.length cap),(0,.gsl D z p 4),(1,.int .i64 syn)]/\M=L') (CutS (b:=ao0 _)) ⟨0,n,C,L,rfl,ao2 _,rfl,hid asp,hid (agQ s).symm,rfl,rfl⟩ ?_;rintro _ _ _ ⟨j,z,D,M,rfl,A,t,k,g,rfl,rfl⟩;by_cases d:j<names.length;have g1:(j:Int)<(names.length:Int):=aso;have E:=aoV j aso;obtain⟨x,r⟩:=aoT (names.getD j []);have B:(names.map AV.str).getD j .undef=.str x:=by rw[<- r];simp[d]
 have i:names.take (j+1)=names.take j++[x]:=by rw[aph d,<- r];simp[d]
 have v:M[p]?=some (.spare z 4):=by rw[g.o];exact e _
 have c:D++[.str x,.int .i64 syn,.bool false,.bool false]=C++(names.take (j+1)).flatMap (tnC syn):=by rw[k.o,i];simp
 have a:M.set p (.spare (z+1) 4)=L.set p (.spare (z+1) 4):=by rw[g.o,arK]
 have w:M.length=L.length:=by rw[g.o];simp
 replace c:=hid c;replace a:=hid a;have u:z+1<=1100000:=aso;have f:z+1=n+(j+1):=aso;replace f:=hid f;clear r i k g e t;refine wk ?_;exact ast aso (CutL (b:=by simp;omega)) ⟨j+1,z+1,_,_,rfl,d,f.o,c,a,rfl,rfl⟩;have q:j=names.length:=aso;subst q;have g1:¬(names.length:Int)<(names.length:Int):=aso;have c:=k.o;have a:=g.o;rw[apg]at c;subst c t;rw[a]at *;clear k g a;refine wk ?_;exact aa h.o
def aN:List Typ:=[([111,98,106,101,99,116,67,108,97,115,115],3,false,false),([99,110],1,false,false),([115,110],1,false,false),([111,117],1,false,false),([111],1,false,false),([100,99],3,false,false),([117,105,100],3,false,false),([109,97,105,108],3,false,false),([100,101,115,99,114,105,112,116,105,111,110],1,false,false),([109,101,109,98,101,114],6,false,false),([117,115,101,114,80,97,115,115,119,111,114,100],7,false,false),([101,109,112,108,111,121,101,101,78,117,109,98,101,114],4,true,false),([97,99,116,105,118,101],5,true,false),([99,114,101,97,116,101,100,65,116],4,true,true),([99,104,97,110,103,101,100,65,116],4,true,true),([112,119,100,70,97,105,108,117,114,101],3,false,true),([112,119,100,76,111,99,107,101,100],4,true,true),([112,119,100,67,104,97,110,103,101,100],4,true,true)]
def abu:List AV:=[.str [116,111,112],.str [],.int .i64 0,.sl [.str [111,98,106,101,99,116,67,108,97,115,115]] 1 none,.sl [.str [99,114,101,97,116,101,100,65,116],.str [99,104,97,110,103,101,100,65,116],.str [112,119,100,70,97,105,108,117,114,101],.str [112,119,100,76,111,99,107,101,100],.str [112,119,100,67,104,97,110,103,101,100]] 5 none,.str [100,111,109,97,105,110],.str [116,111,112],.int .i64 1,.sl [.str [100,99]] 1 none,.sl [.str [100,101,115,99,114,105,112,116,105,111,110]] 1 none,.str [111,114,103,97,110,105,122,97,116,105,111,110],.str [116,111,112],.int .i64 1,.sl [.str [111]] 1 none,.sl [.str [100,101,115,99,114,105,112,116,105,111,110]] 1 none,.str [111,114,103,97,110,105,122,97,116,105,111,110,97,108,85,110,105,116],.str [116,111,112],.int .i64 1,.sl [.str [111,117]] 1 none,.sl [.str [100,101,115,99,114,105,112,116,105,111,110]] 1 none,.str [112,101,114,115,111,110],.str [116,111,112],.int .i64 1,.sl [.str [99,110],.str [115,110]] 2 none,.sl [.str [100,101,115,99,114,105,112,116,105,111,110],.str [117,115,101,114,80,97,115,115,119,111,114,100]] 2 none,.str [105,110,101,116,80,101,114,115,111,110],.str [112,101,114,115,111,110],.int .i64 1,.sl [] 0 none,.sl [.str [117,105,100],.str [109,97,105,108],.str [101,109,112,108,111,121,101,101,78,117,109,98,101,114],.str [97,99,116,105,118,101]] 4 none,.str [103,114,111,117,112],.str [116,111,112],.int .i64 1,.sl [.str [99,110],.str [109,101,109,98,101,114]] 2 none,.sl [.str [100,101,115,99,114,105,112,116,105,111,110]] 1 none,.str [115,101,99,117,114,101,100],.str [116,111,112],.int .i64 2,.sl [.str [117,115,101,114,80,97,115,115,119,111,114,100]] 1 none,.sl [] 0 none,.str [108,97,98,101,108,108,101,100],.str [116,111,112],.int .i64 2,.sl [] 0 none,.sl [.str [117,105,100],.str [109,97,105,108]] 2 none]
theorem acQ:∀ts:List Typ,AV.frzL (cU ts)=cU ts
 |[]=>rfl
 |ty::ts=>by rw[show cU (ty::ts)=tyC ty++cU ts from rfl];simp only[tyC,apH,apx,AV.frzL,AV.frz,acQ ts]
theorem aaT(p:Nat->Bool):∀ts:List Typ,AV.refsL p (cU ts)=true
 |[]=>rfl
 |ty::ts=>by rw[show cU (ty::ts)=tyC ty++cU ts from rfl];simp only[tyC,apH,apx,AV.refsL,AV.refs,aaT p ts,aq5]
theorem anH{P:Program}{N:Nat}{own:Nat->Nat->Nat}{Q:Exit->Tm->List Blk->Prop}{T:Tm}{lc:bK}{L L':List Blk}(e:L=L')(h:AW P N own lc Q T L'):AW P N own lc Q T L:=e▸h
theorem afq(h:K (.agg [.sl (cU aN) aN.length none,.sl abu 9 none]) L):aoX 15 [] L K:=by
 have r:∀(a:Nat) (syn:Int) (s:List (List UInt8)) (b:Nat),cU (aN.take a)++s.flatMap (tnC syn)=cU (aN.take b)->a+s.length=b->b<=100->∀K:AV->List Blk->Prop,K (.gsl (cU (aN.take b)) b (L.length+2) 4) (L++[.cells [.sl [] 0 (some 0),.sl [] 0 (some 0)],.cells [.gsl (cU (aN.take a)) a (L.length+2) 4,.gsl [] 0 (L.length+3) 5],.spare b 4,.spare 0 5])->aoX 44 [.gsl (cU (aN.take a)) a (L.length+2) 4,.int .i64 syn,.sl (s.map AV.str) s.length (some s.length)] (L++[.cells [.sl [] 0 (some 0),.sl [] 0 (some 0)],.cells [.gsl (cU (aN.take a)) a (L.length+2) 4,.gsl [] 0 (L.length+3) 5],.spare a 4,.spare 0 5]) K:=λa syn s b E J T K q=>by refine akK aso asp ?_;rw[E,J,apu _ _ aso,show L.length+2-L.length=2 by omega];exact q
 have w:=r 0 3 [[111,98,106,101,99,116,67,108,97,115,115]] 1 rfl rfl aso;have A:=r 1 1 [[99,110],[115,110],[111,117],[111]] 5 rfl rfl aso;have y:=r 5 3 [[100,99],[117,105,100],[109,97,105,108]] 8 rfl rfl aso;have x:=r 8 1 [[100,101,115,99,114,105,112,116,105,111,110]] 9 rfl rfl aso;have t:=r 9 6 [[109,101,109,98,101,114]] 10 rfl rfl aso;have B:=r 10 7 [[117,115,101,114,80,97,115,115,119,111,114,100]] 11 rfl rfl aso;clear r;obtain⟨Q,E⟩:=aoT (cU (aN.take 1));obtain⟨P,G⟩:=aoT (cU (aN.take 5));obtain⟨O,F⟩:=aoT (cU (aN.take 8));obtain⟨R,H⟩:=aoT (cU (aN.take 9));obtain⟨I,u⟩:=aoT (cU (aN.take 10));obtain⟨N,p⟩:=aoT (cU (aN.take 11));rw[show cU (aN.take 0)=[]from rfl]at w;rw[E]at w A;rw[G]at A y;rw[F]at y x;rw[H]at x t;rw[u]at t B;rw[p]at B;simp only[apv,aqI,apb,apJ,ap9,Nat.reduceAdd]at w A y x t B;have kk1:=@hid _ (λ{K:aoY}=>w K);have kk2:=@hid _ (λ{K:aoY}=>A K);have kk3:=@hid _ (λ{K:aoY}=>y K);have kk4:=@hid _ (λ{K:aoY}=>x K);have kk5:=@hid _ (λ{K:aoY}=>t K);have kk6:=@hid _ (λ{K:aoY}=>B K);clear w A y x t B;clear E G F H u;replace p:=hid p;replace h:=hid h;refine ab X6 (by simp[E8]) ?_;simp only[E8,ag]
 iterate 6 first
  |refine bH ?_
  | (first|refine bv asq ?_|refine aP asq ?_|refine aS ?_|refine cT ?_|refine bJ (fun _=>?_)|refine aH ?_|refine bz ?_)
    simp(config:={maxSteps:=2000000}) only[Kon,push_cast,reduceIte,Nat.reduceEqDiff,Nat.reduceAdd,Nat.reduceMul,Nat.reduceSub,Nat.reduceLT,Nat.reduceLeDiff,Int.reduceLT,Int.reduceLE,Int.reduceAdd,Int.reduceSub,Int.reduceNeg,Int.reduceToNat,Int.reduceEq,reduceCtorEq, *]
  | (first|refine bp asq ?_|refine bm ?_|refine aR ?_|refine bw ?_|refine bP (aG ?_))
    simp only[push_cast,reduceIte,Nat.reduceEqDiff,Nat.reduceAdd,Nat.reduceMul,Nat.reduceSub,Nat.reduceLT,Nat.reduceLeDiff,Int.reduceLT,Int.reduceLE,Int.reduceAdd,Int.reduceSub,Int.reduceNeg,Int.reduceToNat,Int.reduceEq,reduceCtorEq, *]
  |exact bL
  |first|apply bM|apply bq|apply bN|apply br|apply bO|apply bu
  |refine aV ?_
  |refine aQ ?_
  |first|refine aT rfl ?_|refine aU rfl ?_|refine aB rfl ?_ ?_|refine aX rfl (λ_=>?_) (λ_=>?_)|refine aW rfl (λ_=>?_) (λ_=>?_)
  |((first|refine aA (λ_=>?_) (λ_=>?_)|refine aE (λ_=>?_) (λ_=>?_))<;>try simp(config:={maxSteps:=2000000}) only[Kon,push_cast,reduceIte,Nat.reduceEqDiff,Nat.reduceAdd,Nat.reduceMul,Nat.reduceSub,Nat.reduceLT,Nat.reduceLeDiff,Int.reduceLT,Int.reduceLE,Int.reduceAdd,Int.reduceSub,Int.reduceNeg,Int.reduceToNat,Int.reduceEq,reduceCtorEq, *])
  |refine And.intro trivial ?_
  |refine And.intro aso ?_
  |refine be rfl (λ_=>?_) (λ_=>?_)
  |refine And.intro ?_ ?_
 refine aas (L.length+1) 0 4 (c:=[.sl [] 0 (some 0),.sl [] 0 (some 0)]) (l:=[]) (n:=0) asp rfl rfl ?_;refine aas (L.length+1) 1 5 (c:=[.gsl [] 0 (L.length+2) 4,.sl [] 0 (some 0)]) (l:=[]) (n:=0) asp rfl rfl ?_;refine anH (L':=L++[.cells [.sl [] 0 (some 0),.sl [] 0 (some 0)],.cells [.gsl [] 0 (L.length+2) 4,.gsl [] 0 (L.length+3) 5],.spare 0 4,.spare 0 5]) asp ?_;refine wk ?_;refine ak (λm T' L'=>∃(j z:Nat) (D:List AV) (X:List Blk),m=5-j/\j<=5/\Hid (z=13+j)/\Hid (D=cU (aN.take (13+j)))/\T'=[(49,.int .i64 (j:Int)),(48,.int .i64 5),(47,.sl [.str [99,114,101,97,116,101,100,65,116],.str [99,104,97,110,103,101,100,65,116],.str [112,119,100,70,97,105,108,117,114,101],.str [112,119,100,76,111,99,107,101,100],.str [112,119,100,67,104,97,110,103,101,100]] 5 (some 5)),(1,.ptr (L.length+1) 0),(0,.ptr L.length 0)]/\L'=L++(.cells [.sl [] 0 (some 0),.sl [] 0 (some 0)] :: .cells [.gsl D z (L.length+2) 4,.gsl [] 0 (L.length+3) 5] :: .spare z 4 :: .spare 0 5::X)) ass ⟨0,13,_,[],rfl,aso,hid rfl,hid (by rw[<- p.o];rfl),rfl,rfl⟩ ?_;clear kk1 kk2 kk3 kk4 kk5 kk6 p;rintro _ _ _ ⟨j,z,D,X,rfl,S,v,g,rfl,rfl⟩;by_cases k:j<5;have g1:(j:Int)<5:=aso;have U:=aoV j aso;have M:z<=20:=by have:=v.o;omega
 have f:z+1=13+(j+1):=by have:=v.o;omega
 replace f:=hid f;have i:j=0\/j=1\/j=2\/j=3\/j=4:=aso;clear v;rcases i with e|e|e|e|e;have C:([.str [99,114,101,97,116,101,100,65,116],.str [99,104,97,110,103,101,100,65,116],.str [112,119,100,70,97,105,108,117,114,101],.str [112,119,100,76,111,99,107,101,100],.str [112,119,100,67,104,97,110,103,101,100]]:List AV).getD j .undef=.str [99,114,101,97,116,101,100,65,116]:=by rw[e];rfl
 have d:D++[.str [99,114,101,97,116,101,100,65,116],.int .i64 4,.bool true,.bool true]=cU (aN.take (13+(j+1))):=by rw[g.o,e];rfl
 replace d:=hid d;replace e:=hid e;clear g;refine wk ?_;exact ast aso asr ⟨j+1,z+1,_,_,rfl,k,f,d,rfl,rfl⟩;have C:([.str [99,114,101,97,116,101,100,65,116],.str [99,104,97,110,103,101,100,65,116],.str [112,119,100,70,97,105,108,117,114,101],.str [112,119,100,76,111,99,107,101,100],.str [112,119,100,67,104,97,110,103,101,100]]:List AV).getD j .undef=.str [99,104,97,110,103,101,100,65,116]:=by rw[e];rfl
 have d:D++[.str [99,104,97,110,103,101,100,65,116],.int .i64 4,.bool true,.bool true]=cU (aN.take (13+(j+1))):=by rw[g.o,e];rfl
 replace d:=hid d;replace e:=hid e;clear g;refine wk ?_;exact ast aso asr ⟨j+1,z+1,_,_,rfl,k,f,d,rfl,rfl⟩;have C:([.str [99,114,101,97,116,101,100,65,116],.str [99,104,97,110,103,101,100,65,116],.str [112,119,100,70,97,105,108,117,114,101],.str [112,119,100,76,111,99,107,101,100],.str [112,119,100,67,104,97,110,103,101,100]]:List AV).getD j .undef=.str [112,119,100,70,97,105,108,117,114,101]:=by rw[e];rfl
 have d:D++[.str [112,119,100,70,97,105,108,117,114,101],.int .i64 3,.bool false,.bool true]=cU (aN.take (13+(j+1))):=by rw[g.o,e];rfl
 replace d:=hid d;replace e:=hid e;clear g;refine wk ?_;exact ast aso asr ⟨j+1,z+1,_,_,rfl,k,f,d,rfl,rfl⟩;have C:([.str [99,114,101,97,116,101,100,65,116],.str [99,104,97,110,103,101,100,65,116],.str [112,119,100,70,97,105,108,117,114,101],.str [112,119,100,76,111,99,107,101,100],.str [112,119,100,67,104,97,110,103,101,100]]:List AV).getD j .undef=.str [112,119,100,76,111,99,107,101,100]:=by rw[e];rfl
 have d:D++[.str [112,119,100,76,111,99,107,101,100],.int .i64 4,.bool true,.bool true]=cU (aN.take (13+(j+1))):=by rw[g.o,e];rfl
 replace d:=hid d;replace e:=hid e;clear g;refine wk ?_;exact ast aso asr ⟨j+1,z+1,_,_,rfl,k,f,d,rfl,rfl⟩;have C:([.str [99,114,101,97,116,101,100,65,116],.str [99,104,97,110,103,101,100,65,116],.str [112,119,100,70,97,105,108,117,114,101],.str [112,119,100,76,111,99,107,101,100],.str [112,119,100,67,104,97,110,103,101,100]]:List AV).getD j .undef=.str [112,119,100,67,104,97,110,103,101,100]:=by rw[e];rfl
 have d:D++[.str [112,119,100,67,104,97,110,103,101,100],.int .i64 4,.bool true,.bool true]=cU (aN.take (13+(j+1))):=by rw[g.o,e];rfl
 replace d:=hid d;replace e:=hid e;clear g;refine wk ?_;exact ast aso asr ⟨j+1,z+1,_,_,rfl,k,f,d,rfl,rfl⟩;have g1:¬(j:Int)<5:=aso;have i:j=5:=aso;have d:D=cU aN:=by rw[g.o,i];rfl
 have f:z=aN.length:=by rw[v.o,i];rfl
 replace d:=hid d;replace f:=hid f;clear v g i;refine wk ?_;rw[d.o,f.o];refine aY ?_;simp only[AV.frz,AV.frzL,acQ];refine ac ?_ h.o;simp only[AV.refs,AV.refsL,aaT,aq5]
theorem ny:aki aN:=by refine⟨by decide,λty h=>?_,λty h=>?_⟩;have:aN.all (λt=>decide (t.1.length<=1000))=true:=asq;have:=apa.1 this ty h;simp only[decide_eq_true_eq]at this;unfold bI;omega;have:aN.all (λt=>decide (gX aN t.1=some t))=true:=asq;simpa using apa.1 this ty h
end Go.Proofs.YtdnfjhflkkpokaaGreatDoor.Av
set_option maxRecDepth 100000
namespace Go.Proofs.YtdnfjhflkkpokaaGreatDoor.Av
open Go
variable {d dn tn:List Rdn}{x:aC}
def xY:LSO:=[Ac 8 0,Ak 9]
def xX:LSO:=[Aa 17 3,Aj 18 36 17,Aa 16 18,Ao 19 16,Aq 20 16,Aa 10 19,Aa 11 20]
def xW:LSO:=[Aa 21 11,AB 22 21 0]
def xV:LSO:=[Ac 8 0,Ak 9]
def xU:LSO:=[Aa 23 3,Ah 24 23,Ai 25 24 1,Ac 26 0]
def xT:LSO:=[Al 27 26 25]
def xS:LSO:=[Aa 28 26,Aa 12 28]
def xR:LSO:=[Aa 29 0,Aa 30 3,Aa 31 12,Cw 32 30 31,Ar 33 24 29 32,Aa 13 33]
def xQ:LSO:=[Aa 34 13,An 35 34 0]
def xP:LSO:=[Aa 37 0,Aa 38 13,Ar 39 25 37 38,Aa 36 39,Ao 40 36,Aq 41 36,Aa 14 40,Aa 15 41]
def u9:LSO:=[Aa 42 1,Aa 43 2,Aa 44 14,Cy 45 26 42 43 44 1,A3 46 45]
def u7:LSO:=[Aa 47 12,An 48 47 0]
def u6:LSO:=[Aa 49 13,Aa 8 49,Ak 9]
def u0:LSO:=[Aa 50 14,Ac 8 0,Aa 9 50]
def uZ:LSO:=[Ai 51 26 1,Aa 26 51]
def uY:LSO:=[Ac 8 0,Ak 9]
def iX:aK:=⟨52,(ash xY [] (.seq (ash xX CC (ash xW C4 (asj 22 (.sreg xV [])))) (.seq (ash xU CM (ask 0 (ash xT [] (.seq (asl 27 0) (.seq (.block 1 (ash xS C4 (ash xR CB (.seq (ash xQ C4 (asi 35 (.exit 1) .skip)) (ash xP Da (.seq (ash u9 CA (asi 46 (.exit 1) .skip)) (.seq (ash u7 C4 (asj 48 (.sreg u6 CD))) (ash u0 CD .ret)))))))) (.sreg uZ C4)))))) (ash uY [] .ret)))),[(.tmp 8),(.tmp 9)]⟩
attribute [push_cast] xY xX xW xV xU xT xS xR xQ xP u9 u7 u6 u0 uZ uY
theorem wl:asm 10=asn iX:=asq
def PO:LSO:=[Ay 4 0,Ak 8]
def PN:LSO:=[Ak 9]
def PM:LSO:=[Aa 18 1,Ah 19 18,Ac 20 0]
def PL:LSO:=[Al 21 20 19]
def PK:LSO:=[Am 22 2 18 20,As 23 2 22,Bj 11,Ap 2 11 23]
def PJ:LSO:=[As 25 2 4,Ad 26 0 11,Ab 27 1 26,Ar 28 45 25 27,Aa 24 28,Ao 29 24,Aq 30 24,Bx 12,Ap 4 12 29,Aa 13 30]
def PI:LSO:=[Aa 31 2,Ah 32 31,An 33 32 0,Aa 34 33,.grp none 34 true
 [Az 35 34 3 12,A0 36 34 1 35,Bt 37 34 36]
 38 (tm 37),Aa 14 38]
def PH:LSO:=[Aa 39 2,Ah 40 39,Ac 41 0]
def PG:LSO:=[Al 42 41 40]
def PF:LSO:=[Am 43 1 39 41,Ab 44 1 43,Aa 16 44]
def Kc:LSO:=[Aa 45 14,Aa 46 45,.grp none 46 false
 [Ag 47 46 16,og 48 46 false (.bin .eql (tm 47) (.av (.str [42]))),Ag 49 46 48,.grp (some (46,false)) 49 true
 [Az 50 49 3 12,A0 51 49 1 50,Bt 52 49 51]
 53 (tm 52)]
 54 (tm 53),Aa 55 54,.grp none 55 false
 [Ag 56 55 16,og 57 55 false (.bin .eql (tm 56) (.av (.str [43]))),Ag 58 55 57,.grp (some (55,false)) 58 true
 [Az 59 58 3 12,A0 60 58 1 59]
 61 (tm 60)]
 62 (tm 61),Aa 63 62,.grp none 63 false
 [Ag 64 63 16,AM 65 63 46 64,A8 66 63 0 11,A6 67 63 1 66,AM 68 63 46 67,BB 69 63 65 68]
 70 (tm 69),Aa 14 70]
def Kb:LSO:=[Ai 71 41 1,Aa 41 71]
def Ka:LSO:=[Aa 72 14,A3 73 72]
def J9:LSO:=[Ad 74 0 11,Ab 75 1 74,o1 76 (.build [(.str []),(.sl [] 0 (some 0))] [(0,(1,(tm 75)))]),Bj 17,Ap 2 17 76]
def J8:LSO:=[Aa 77 3,A3 78 77]
def J7:LSO:=[Ad 79 1 11,Ab 80 1 79,Aj 81 47 80,Ad 82 1 17,Ap 1 82 81]
def J6:LSO:=[Aa 83 9,As 84 2 17,BG 85 84,BX 86 83 85,Aa 9 86]
def J5:LSO:=[Ai 87 20 1,Aa 20 87]
def J4:LSO:=[Aa 88 9,Aa 8 88]
def NO:aK:=⟨89,(ash PO [] (ash PN [] (.seq (ash PM [] (ask 0 (ash PL [] (.seq (asl 21 0) (.seq (.block 1 (ash PK C6 (ash PJ Di (ash PI CB (.seq (ash PH [] (ask 2 (ash PG [] (.seq (asl 42 2) (.seq (.block 3 (ash PF C6 (.sdreg Kc [.pure,.pure,.pure,.pure,.pure,.pure,(.read 0 0),.pure,.pure,.pure,.pure,.pure,.pure,.pure,.pure,(.read 0 0),.pure,.pure,.pure,.pure,(.read 0 0),.pure,(.read 0 0)] CE))) (.sreg Kb C4)))))) (.seq (ash Ka C4 (asi 73 (.exit 1) .skip)) (ash J9 C7 (.seq (ash J8 C4 (asi 78 (.sreg J7 CN) .skip)) (.sreg J6 CA))))))))) (.sreg J5 C4)))))) (ash J4 C4 .ret)))),[(.tmp 8)]⟩
attribute [push_cast] PO PN PM PL PK PJ PI PH PG PF Kc Kb Ka J9 J8 J7 J6 J5 J4
theorem ZW:asm 17=asn NO:=asq
def F4:LSO:=[Ay 6 1,Ay 8 3,Ak 10,Ac 11 0,Ak 12]
def F3:LSO:=[Ad 23 1 8,Ab 24 1 23,Aj 25 36 24,Aa 22 25,Ao 26 22,Aq 27 22,Aa 13 26,Aa 14 27]
def F2:LSO:=[Ad 29 2 8,Ab 30 1 29,AJ 31 30 0,Aa 32 31,.grp none 32 false
 [A8 33 32 2 8,A6 34 32 1 33,AC 35 32 34 2]
 36 (tm 35),Aa 37 36,.grp none 37 false
 [A8 38 37 10 8,A6 39 37 1 38,Bp 40 37 39 0]
 41 (tm 40),Aa 42 41,.grp none 42 false
 [A8 43 42 11 8,A6 44 42 1 43,Bp 45 42 44 0]
 46 (tm 45),Aa 28 46]
def F1:LSO:=[Ak 10,Ac 11 2,Ak 12]
def F0:LSO:=[Aa 48 14,AB 49 48 0,Aa 47 49]
def FZ:LSO:=[Ak 10,Ac 11 34,Ak 12]
def FY:LSO:=[Aa 51 0,Aa 52 2,Ad 53 0 8,Ab 54 1 53,Ad 55 1 8,Ab 56 1 55,o1 57 (.call 10 [(tm 51),(tm 52),(tm 54),(tm 56)]),Aa 50 57,Ao 58 50,Aq 59 50,Aa 15 58,
 Aa 16 59]
def FX:LSO:=[Aa 60 15,An 61 60 0]
def FW:LSO:=[Aa 62 16,Ak 10,Ac 11 32,Aa 12 62]
def FV:LSO:=[Ak 17]
def ym:LSO:=[Aa 63 0,Aa 64 15,Ad 65 2 8,Ab 66 1 65,AF 67 23 63 64 66,Ah 68 67,Ac 69 0]
def yl:LSO:=[Al 70 69 68]
def yj:LSO:=[Aa 71 69,Am 72 1 67 69,Ab 73 1 72,Cp 19,Aa 18 71,Ap 1 19 73]
def yh:LSO:=[Ad 74 11 8,Ab 75 1 74,A7 76 75 0,Aa 77 76,.grp none 77 true
 [Ae 78 77 18,og 79 77 true (.bin .quo (tm 78) (iv 100)),Az 80 77 11 8,A0 81 77 1 80,og 82 77 true (.bin .geq (tm 79) (tm 81))]
 83 (tm 82)]
def yg:LSO:=[Aa 84 17,Aa 10 84,Ac 11 3,Ak 12]
def yf:LSO:=[Aa 85 4,o1 86 (.mkfn 52 [(tm 19)]),Ar 87 51 85 86]
def ye:LSO:=[Aa 89 0,Ab 90 1 19,Ar 91 25 89 90,Aa 88 91,Ao 92 88,Aq 93 88,Aa 20 92,Aa 21 93]
def yd:LSO:=[Aa 94 2,Ad 95 0 8,Ab 96 1 95,Aa 97 20,Cy 98 26 94 96 97 1,A3 99 98,Aa 100 99,.grp none 100 false
 [og 101 100 false (.load true 2 (tm 6)),A8 102 100 3 8,og 103 100 false (.load true 5 (tm 102)),Ag 104 100 2,A8 105 100 0 8,A6 106 100 1 105,Ag 107 100 20,Ag 108 100 21,
 og 109 100 false (.call 28 [(tm 104),(tm 106),(tm 107),(tm 108),(iv 4)]),og 110 100 false (.call 27 [(tm 101),(tm 103),(tm 109)]),Bi 111 100 110 1]
 112 (tm 111)]
def yc:LSO:=[Ad 113 10 8,Ab 114 1 113,A7 115 114 0,Aa 116 115,.grp none 116 true
 [Ae 117 116 17,AE 118 116 117,Az 119 116 10 8,A0 120 116 1 119,B7 121 116 118 120]
 122 (tm 121)]
def yb:LSO:=[Aa 123 17,Aa 10 123,Ac 11 4,Ak 12]
def x9:List (aw×Kd):=
 [AD 124 17,AD 125 20,od 126 (.load true 2 (tm 6)) (.read 0 0),AD 127 2,A9 128 0 8,AA 129 1 128 0 0,AD 130 20,AD 131 21,
 od 132 (.call 28 [(tm 127),(tm 129),(tm 130),(tm 131),(iv 2)]) (.read 0 0),A9 133 8 8,AA 134 1 133 0 0,A9 135 9 8,AA 136 1 135 0 0,
 od 137 (.call 17 [(tm 126),(tm 132),(tm 134),(tm 136)]) (.read 0 0),od 138 (.build [(.sl [] 0 (some 0)),(.sl [] 0 (some 0))] [(0,(1,(tm 125))),(1,(1,(tm 137)))]) .pure,
 od 139 (.bslice false 2 1 [(.sl [] 0 (some 0)),(.sl [] 0 (some 0))] [(0,(2,(tm 138)))]) (.read 0 0)]
def vc:List aw :=
 [⟨(some 140),(.app 1 2 48 [(.sl [] 0 (some 0)),(.sl [] 0 (some 0))] (tm 124) (tm 139)),none⟩,⟨(some 17),(.mv (tm 140)),none⟩]
def x8:LSO:=[Ai 141 69 1,Aa 69 141]
def xZ:LSO:=[Aa 142 17,Aa 10 142,Ac 11 0,Ak 12]
def wz:aK:=⟨143,(ash F4 [] (ash F3 CE (.seq (.block 0 (ash F2 CG (asi 28 (ash F1 [] .ret) (ash F0 C6 (asj 47 (.sreg FZ [])))))) (ash FY CW (.seq (ash FX C4 (asj 61 (.sreg FW CJ))) (ash FV [] (.seq (ash ym Dg (ask 1 (ash yl [] (.seq (asl 70 1) (.seq (.block 2 (ash yj CF (.seq (ash yh CA (asj 83 (.sreg yg CJ))) (.seq (ash yf C6 (asi 87 (.exit 2) .skip)) (ash ye CI (.seq (.seq (.sdreg yd [.pure,.pure,(.read 0 0),.pure,(.read 0 0),.pure,.pure,(.read 0 0),.pure,(.read 0 0),.pure,.pure,(.read 0 0),.pure,.pure,(.read 0 0)] CE) (asi 112 (.exit 2) .skip)) (.seq (ash yc CA (asj 122 (.sreg yb CJ))) (.dregM x9 vc [true,false,false,false,false,false,false,false,false,false,false,false,false,false,false,false,false,false])))))))) (.sreg x8 C4)))))) (ash xZ CJ .ret)))))))),[(.tmp 10),(.tmp 11),(.tmp 12)]⟩
attribute [push_cast] F4 F3 F2 F1 F0 FZ FY FX FW FV ym yl yj yh yg yf ye yd yc yb x9 vc x8 xZ
theorem Wt:asm 21=asn wz:=asq
def gf:LSO:=[Af 4]
def gc:LSO:=[Aa 5 0,Aa 6 1,Ar 7 97 5 6,AL 8 7 0,Aa 4 8]
def dX:aK:=⟨9,(ash gf [] (ash gc CA .ret)),[(.tmp 4)]⟩
attribute [push_cast] gf gc
theorem lQ:asm 51=asn dX:=asq
def iu:LSO:=[Ac 4 0]
def ir:LSO:=[Aa 6 0,Ah 7 6,Ac 8 0]
def iq:LSO:=[Al 9 8 7]
def io:LSO:=[Aa 10 8,Aa 5 10]
def im:LSO:=[Aa 11 1,Aa 12 0,Aa 13 5,Am 14 1 12 13,Ab 15 1 14,B0 16 11 15]
def il:LSO:=[Aa 17 5,Aa 4 17]
def ik:LSO:=[Ai 18 8 1,Aa 8 18]
def ij:LSO:=[Ac 4 (-1)]
def ff:aK:=⟨19,(ash iu [] (.seq (ash ir CD (ask 0 (ash iq [] (.seq (asl 9 0) (.seq (.block 1 (ash io C4 (ash im CB (asj 16 (.sreg il C4))))) (.sreg ik C4)))))) (ash ij [] .ret))),[(.tmp 4)]⟩
attribute [push_cast] iu ir iq io im il ik ij
theorem o7:asm 97=asn ff:=asq
attribute [push_cast] iX NO dX ff
variable {α:Type}
structure aej(l:List (Ent α)):Prop where
 ok:∀x∈l,OkD x.nm
 by_:∀a∈l,∀b∈l,NK a.nm=NK b.nm->a=b
 ne:∀x∈l,x.nm≠[]
theorem TOk.nms{suf:List Rdn}{last:Int}{l:List (Ent α)}(h:TOk suf last l):aej l:=⟨h.ok,λa c b d e=>h.byN c d e,λx f e=>h.inv.ne (gN f) (SM.2 e)⟩
def YF(P:List Rdn->Bool)(d:List Rdn)(best:List Rdn)(l:List (Ent α)):List Rdn:=l.foldl (λb x=>if(cA d x.nm=true/\b.length<x.nm.length)/\P x.nm=true then x.nm else b) best
def JL(P:List Rdn->Bool)(l:List (Ent α))(d:List Rdn):Int×List Rdn:=if(YF P d [] l).length=d.length then(bA l d,[])else(0,YF P d [] l)
def wS(P:List Rdn->Bool)(l:List (Ent α)):Bool->List Rdn->Int×List Rdn
 |_,[]=>(0,[])
 |b,r::s=>match atE l (r::s)with|some x=>if P x.nm=true then(if b then(x.id,[])else(0,x.nm))else wS P l false s|none=>wS P l false s
theorem agw(P:List Rdn->Bool)(d a:List Rdn)(x:Ent α)(l:List (Ent α)):YF P d a (x::l)=YF P d (if(cA d x.nm=true/\a.length<x.nm.length)/\P x.nm=true then x.nm else a) l:=rfl
theorem SR(P:List Rdn->Bool)(d:List Rdn):∀(l:List (Ent α)) (a:List Rdn),a.length<=(YF P d a l).length/\(∀x∈l,cA d x.nm=true->P x.nm=true->x.nm.length<=(YF P d a l).length)/\(YF P d a l=a\/∃x∈l,cA d x.nm=true/\P x.nm=true/\YF P d a l=x.nm)
 |[],a=>⟨ao0 _,λ_ h=>absurd h apX,.inl rfl⟩
 | x::l,a=>by
   rw[agw];by_cases b:(cA d x.nm=true/\a.length<x.nm.length)/\P x.nm=true
   .obtain⟨h1,h2,h3⟩:=SR P d l x.nm
    grind
   .obtain⟨h1,h2,h3⟩:=SR P d l a
    grind
theorem aej.fnd{l:List (Ent α)}(h:aej l){x:Ent α}(a:x∈l)(b:OkD d)(e:NK x.nm=NK d):atE l d=some x:=by
 unfold atE;rw[if_pos b];cases hf:l.find? (λx=>decide (NK x.nm=NK d))with
 |none=>exact absurd e (by simpa using aqB.1 hf x a)
 |some y=>rw[h.by_ y (aqT hf) x a (by rw[e];simpa using aqU hf)]
theorem aej.und{l:List (Ent α)}(h:aej l){x:Ent α}(b:x∈l)(c:cA d x.nm=true)(a:x.nm.length=d.length):bA l d=x.id:=by obtain⟨f,_,e⟩:=cC.1 c;have:=h.fnd b f (e.eq_of_length (by rw[bC,bC,a]));unfold bA;rw[this]
theorem aaQ{P:List Rdn->Bool}{l:List (Ent α)}(h:aej l):∀(d:List Rdn) (b:Bool),OkD d->(wS P l b d=(0,[])/\∀x∈l,P x.nm=true->¬NK x.nm <:+ NK d) \/
  ∃x∈l,P x.nm=true/\NK x.nm <:+ NK d/\(wS P l b d=if b=true/\x.nm.length=d.length then(x.id,[])else(0,x.nm))/\∀y∈l,P y.nm=true->NK y.nm <:+ NK d->y.nm.length<=x.nm.length
 |[],b,_=>.inl ⟨rfl,λx f _ g=>h.ne x f (SM.1 (List.suffix_nil.1 g))⟩
 | r::d,b,hd=>by
   have n:OkD d:=OkD.app (c:=[r]) hd;have low:(∀x∈l,P x.nm=true->NK x.nm≠NK (r::d))->wS P l b (r::d)=wS P l false d->(wS P l b (r::d)=(0,[])/\∀x∈l,P x.nm=true->¬NK x.nm <:+ NK (r::d)) \/
     ∃x∈l,P x.nm=true/\NK x.nm <:+ NK (r::d)/\(wS P l b (r::d)=if b=true/\x.nm.length=(r::d).length then(x.id,[])else(0,x.nm))/\∀y∈l,P y.nm=true->NK y.nm <:+ NK (r::d)->y.nm.length<=x.nm.length:=by
    intro i t;rw[t];have j:∀x∈l,P x.nm=true->NK x.nm <:+ NK (r::d)->NK x.nm <:+ NK d:=λx f a g=>by
     rcases List.suffix_cons_iff.1 (show NK x.nm <:+ dx true r::NK d from g)with e|e
     .exact absurd e (i x f a)
     omega
    rcases aaQ h d false n with⟨m,p⟩|⟨x,f,a,m,p,s⟩
    .exact .inl ⟨m,λx f a g=>p x f a (j x f a g)⟩
    .have:=m.length_le;rw[bC,bC]at this;refine .inr ⟨x,f,a,m.trans (ara _ _),?_,λy k a g=>s y k a (j y k a g)⟩
     grind
   cases hf:atE l (r::d)with
   | some x =>
     obtain⟨_,f,e⟩:=cP hf;by_cases a:P x.nm=true
     .have hlen:x.nm.length=(r::d).length:=(by have:=congrArg List.length e;rwa[bC,bC]at this);refine .inr ⟨x,f,a,by rw[e];exact aq9 _,?_,λy k _ g=>?_⟩
      .rw[wS,hf];simp only;rw[if_pos a];simp only[hlen,and_true]
      .have:=g.length_le;rw[bC,bC]at this;omega
     .refine low (λy k o q=>a ?_) (by rw[wS,hf];simp only;rw[if_neg a]);rw[h.by_ x f y k (by rw[e,q])];exact o
   | none =>
     have i:=tO.1 hf hd;exact low (λx f _=>i x f) (by rw[wS,hf])
theorem akG{P:List Rdn->Bool}{l:List (Ent α)}(h:aej l)(r:OkD d):wS P l true d=JL P l d:=by
 obtain⟨w,u,q⟩:=SR P d l [];unfold JL;rcases aaQ h d true r with⟨f,p⟩|⟨x,a,n,f,p,t⟩;rw[f];have j:YF P d [] l=[]:=by rcases q with e|⟨y,g,i,n,e⟩;omega;exact absurd (cC.1 i).2.2 (p y g n)
 rw[j];split;rename_i v;have k:d=[]:=by simpa using v.symm
 subst k;unfold bA;cases hf:atE l ([]:List Rdn)with
 |none=>rfl
 | some x =>
   obtain⟨_,a,e⟩:=cP hf;exact absurd (SM.1 (by rw[e];rfl)) (h.ne x a)
 rfl;have i:=cC.2 ⟨r,h.ok x a,f⟩;have c:=u x a i n;have j:YF P d [] l=x.nm:=by rcases q with e|⟨y,g,o,m,e⟩;simp_all;rw[e]at c⊢;have b:=(cC.1 o).2.2;have s:=t y g m b;have:NK x.nm <:+ NK y.nm:=V6 f b (by rw[bC,bC];exact c);rw[h.by_ x a y g (this.eq_of_length (by rw[bC,bC];omega))]
 rw[j,p];simp only[true_and];split;rename_i s;rw[h.und a i s];rfl
def opM(ts:List Typ)(n:List UInt8):Bool:=((gX ts n).getD ([],0,false,false)).2.2.2
def YE(o:Bool)(nm n:List UInt8):Bool:=(decide (n=[42]) && !o) ||((decide (n=[43])&&o) ||decide (aj n=aj nm))
def acL(ts:List Typ)(names:List (List UInt8))(a:Atr):Bool:=(decide (names=[]) && !opM ts a.1) ||names.any (YE (opM ts a.1) a.1)
def iR(ts:List Typ)(names:List (List UInt8))(tonly:Bool)(l:List Atr):List Atr:=(l.filter (acL ts names)).map λa=>(a.1,if tonly then[]else a.2)
abbrev Fnd:=List Rdn×List Atr
variable {α:Type}
def VH(ts:List Typ)(P:List Rdn->List UInt8->Int->Bool)(T:List Atr->Int)(names:List (List UInt8))(tonly:Bool)(x:Ent (List Atr)):Option Fnd :=
 if(P x.nm [] 1&&decide (T (x.av.filter λa=>P x.nm a.1 4)=1))=true then some (x.nm,iR ts names tonly (x.av.filter λa=>P x.nm a.1 2))else none
def srL(f:α->Option Fnd)(time size:Int):Nat->List Fnd->List α->List Fnd×Int
 |_,out,[]=>(out,0)
 | n,out,x::l=>if 0<time/\time<=((n / 100:Nat):Int) then (out,3) else
   match f x with
   |none=>srL f time size (n+1) out l
   |some y=>if 0<size/\(out.length:Int)=size then(out,4)else srL f time size (n+1) (out++[y]) l
def Ft(ts:List Typ)(l:List (Ent (List Atr)))(P:List Rdn->List UInt8->Int->Bool)(T:List Atr->Int)(base:List Rdn)(scope:Int)(names:List (List UInt8))(tonly:Bool)(size time:Int):List Fnd×Int×List Rdn :=
 if scope<0\/2<scope\/size<0\/time<0 then([],2,[])else
 if ¬OkD base then([],34,[])else
 if(JL (P · [] 1) l base).1=0 then([],32,(JL (P · [] 1) l base).2)else
 ((srL (VH ts P T names tonly) time size 0 [] (match o4 l (JL (P · [] 1) l base).1 with|some a=>scL l a scope|none=>[])).1,(srL (VH ts P T names tonly) time size 0 [] (match o4 l (JL (P · [] 1) l base).1 with|some a=>scL l a scope|none=>[])).2,[])
set_option maxHeartbeats 8000000
set_option maxRecDepth 100000
theorem acW{l:List aC}(h:o4 l x.id=some x):scT l x.id 2=(scL l x 2).map (·.id):=by unfold scT;rw[h];exact if_neg aso
theorem Yo{suf:List Rdn}{last:Int}{l:List aC}(f:TOk suf last l){y:aC}(d:atE l dn=some x):y∈scL l x 2↔y∈l/\cA y.nm dn=true:=by
 obtain⟨g,b,e⟩:=cP d;unfold scL;rw[List.Perm.mem_iff (aqG _ _),apC];refine and_congr_right λh=>?_
 unfold iE;rw[decide_eq_true (rfl:(2:Int)=2),aqQ,arh,cC,cC,e];exact⟨λ⟨a,_,c⟩=>⟨a,g,c⟩,λ⟨a,_,c⟩=>⟨a,f.ok x b,c⟩⟩
theorem afW(l:List aC)(x:aC)(s:Int):(scL l x s).length<=l.length:=by unfold scL;rw[ar6];exact ap4 _ _
theorem alY{suf:List Rdn}{last:Int}{l:List aC}(c:TOk suf last l)(b:atE l dn=some x):aft l dn tn=(scL l x 2).any λy => !decide (OkD (iB y.nm dn.length tn)):=by rw[arq,aft,aqz,aqz];constructor;rintro⟨y,a,h⟩;rw[ao3]at h;exact⟨y,(Yo c b).2 ⟨a,h.1⟩,h.2⟩;rintro⟨y,a,h⟩;obtain⟨d,e⟩:=(Yo c b).1 a;exact⟨y,d,by rw[ao3];exact⟨e,h⟩⟩
theorem amE{suf:List Rdn}{last:Int}{l:List aC}(s:TOk suf last l)(a4:l.length<=1100000){L:List Blk}{iv mn mi:Nat}{nb bn:Int->Nat}{ck ci:Nat}{rs:List TKy}(t:bT L iv mn mi nb bn ck ci rs suf last l){k:Int}{v:AV}(hx:atE l dn=some x)(T:dnB tn){K:aoY}(h:K (.int .i64 (abZ suf l x.id dn tn)) L):
  aoX 124 [.ptr iv 0,.int .i64 x.id,.agg [.int .i64 k,dnA dn,dnA tn,v]] L K:=by
 obtain⟨hd,a3,bk⟩:=cP hx;have g:=s.sok.m.b;have f:=hd.m.b;have hv:=t.v;have a1:iv<L.length:=(aoZ.1 hv).1;have av:∀X:List Blk,(L++X)[iv]?=some (.cells [dnA suf,.lmap mn,.lmap mi,.int .i64 last]):=λX=>by rw[ao4 a1];exact hv
 obtain⟨⟨ps,pe⟩,I⟩:∃q,prS tn=q:=⟨_,rfl⟩;have kk1:Hid (Ctr Tryz.prog 36 [dnA tn] (.tup [.str ps,.int .i64 pe])):=@hid _ (by intro L K q;exact lI T.1 T.2 (by rw[I];exact q));have kk2:Hid (∀{v:Nat}{L:List Blk}{K:aoY},K (.bool (kD dn suf)) L->aoX 123 [.ptr v 0,dnA dn,dnA suf] L K):=@hid _ (by intro v L K q;exact afJ f g q);have Q:OkD tn↔pe=0:=by unfold OkD;rw[I]
 unfold abZ at h;by_cases c1:kD dn suf=true;rw[if_pos c1]at h;rw[c1]at kk2;replace h:=hid h;clear t I Q f g;refine aoW b7 ?_;exact ac rfl h.o;rw[if_neg c1]at h;rw[ar7.2 c1]at kk2;by_cases c2:pe=0;rotate_left;rw[if_pos (.inl λc=>c2 (Q.1 c))]at h;replace h:=hid h;clear t I Q f g;refine aoW b7 ?_;exact ac rfl h.o;have M:=Q.2 c2;have a8:=M.len;subst c2;by_cases c3:tn=[];rw[if_pos (.inr c3)]at h;replace h:=hid h;subst c3;clear t I Q f g;refine aoW b7 ?_;exact ac rfl h.o;rw[if_neg (λc=>c.elim (λc=>c M) c3)]at h;have a_:¬(tn.length:Int)=0:=λc=>c3 (apK.1 aso)
 have a':(1:Int)<=(tn.length:Int):=aso;have ar:tn.tail.length=tn.length-1:=aqK;have A:List.take (tn.length-1) (List.drop 1 (tn.map am))=tn.tail.map am:=by rw[arH,List.map_tail,apA asp]
 have ai:=M.tail;have kk3:Hid (∀{c:Option Nat}{L:List Blk}{K:aoY},K (.bool (cA tn.tail dn)) L->aoX 62 [.sl (List.take (tn.length-1) (List.drop 1 (tn.map am))) (tn.length-1) c,dnA dn] L K):=@hid _ (by intro c L K q;rw[A,<- ar];exact SV ai.m.b f q)
 have kf:Hid (∀{c:Option Nat}{L':List Blk}{K:aoY}(d:List Rdn) (X:List Blk),dnB d->K (.int .i64 (bA l d)) (L++X)->aoX 24 [.ptr iv 0,.sl (d.map am) d.length c] (L++X) K):=@hid _ (by intro c L' K d X a2 q;exact rG a2 s (t.app X) q)
 have kk4:Hid (∀{c:Option Nat}{X:List Blk}{K:aoY},K (.int .i64 (bA l tn.tail)) (L++X)->aoX 24 [.ptr iv 0,.sl (List.take (tn.length-1) (List.drop 1 (tn.map am))) (tn.length-1) c] (L++X) K):=@hid _ (by intro c X K q;rw[A,<- ar];exact kf.o (L':=L) _ X ai.m.b q)
 by_cases c4:cA tn.tail dn=true;rw[if_pos c4]at h;rw[c4]at kk3;replace h:=hid h;clear t I Q f g kf kk4 A;refine aoW b7 ?_;exact ac rfl h.o;rw[if_neg c4]at h;rw[ar7.2 c4]at kk3;by_cases c5:atE l tn.tail=none;rw[if_pos c5]at h;rw[s.find0.2 c5]at kk4;replace h:=hid h;clear t I Q f g kf A;refine aoW b7 ?_;exact ac rfl h.o;rw[if_neg c5]at h;have a5:¬bA l tn.tail=0:=λc=>c5 (s.find0.1 c)
 have kk5:Hid (∀{X:List Blk}{K:aoY},K (.int .i64 (bA l tn)) (L++X)->aoX 24 [.ptr iv 0,dnA tn] (L++X) K):=@hid _ (by intro X K q;exact kf.o (L':=L) _ X M.m.b q)
 obtain⟨z,hz⟩:=aoT (bA l tn.tail);rw[hz]at kk4 a5;have S:aeN l x.id tn=(decide (0<bA l tn)&&decide (bA l tn≠x.id)):=by
  unfold aeN bA;cases hq:atE l tn with
  |none=>simp
  | some y =>
    have:=(s.ids y (cP hq).2.1).1;simp only;rw[decide_eq_true (by omega:0<y.id),apy]
 rw[S]at h;obtain⟨w,hw⟩:=aoT (bA l tn);rw[hw]at kk5 h;obtain⟨xi,V⟩:=aoT (x.id);rw[V]at h⊢;by_cases c6:0<w/\w≠xi;obtain⟨c6,c7⟩:=c6;have bb:w>0:=c6;rw[if_pos (by rw[decide_eq_true c6,decide_eq_true c7];rfl)]at h;replace h:=hid h;clear t I Q f g kf A;refine aoW b7 ?_;exact ac rfl h.o;rw[if_neg (by intro c;rw[ao3,decide_eq_true_eq,decide_eq_true_eq]at c;exact c6 c)]at h
 have c8:w<=0\/w=xi:=aso;rw[alY s hx]at h;have a0:scT l xi 2=(scL l x 2).map (·.id):=by rw[<- V];exact acW (s.ent a3)
 have kk6:Hid (∀{X:List Blk}{K:aoY},K (.sl (((scL l x 2).map (·.id)).map (AV.int .i64)) (scL l x 2).length none) (L++X)->aoX 23 [.ptr iv 0,.int .i64 xi,.int .i64 2] (L++X) K):=@hid _ (by intro X K q;refine SQ s a4 (t.app X) ?_;rw[a0,apm];exact q)
 obtain⟨a,R⟩:=aoT (scL l x 2);have al:=afW l x 2;have p:=λy=>(Yo (y:=y) s hx).1
 rw[R]at kk6 h al p;replace p:=hid p;replace h:=hid h;replace t:=hid t;replace s:=hid s;clear I Q f g kf A a0 R S hw hz V;have c9:(¬0<w/\¬w>0)\/(0<w/\w>0/\xi=w):=aso;clear c8 c6;have a9:=hd.len;rcases c9 with⟨c9,a6⟩|⟨c9,a6,rfl⟩
 all_goals
  refine aoW b7 ?_;refine ak (λm T' L'=>∃j:Nat,m=a.length-j/\j<=a.length/\Hid (∀i,i<j->OkD (iB (a.getD i default).nm dn.length tn))/\T'=[(68,.int .i64 (j:Int)),(67,.int .i64 a.length),(66,.sl ((a.map (·.id)).map (AV.int .i64)) a.length none),(5,.ptr L.length 0),(0,.ptr iv 0)]/\L'=L++[.cells [.int .i64 k,dnA dn,dnA tn,v]]) ass ⟨0,rfl,ao2 _,hid (λi hi=>absurd hi (arc _)),rfl,rfl⟩ ?_;rintro _ _ _ ⟨j,rfl,hj,hI,rfl,rfl⟩;by_cases H:j<a.length
  .have g1:(j:Int)<(a.length:Int):=aso;have g2:=aoV j aso;obtain⟨y,Y⟩:=aoT (a.getD j default);have P:y∈a:=(by rw[<- Y];simp[H]);obtain⟨D,ad⟩:=p.o y P;have e1:((a.map (·.id)).map (AV.int .i64)).getD j .undef=.int .i64 y.id:=(by rw[<- Y];simp[H]);have e2:j<((a.map (·.id)).map (AV.int .i64)).length:=(by simpa using H);rcases(t.o.app [.cells [.int .i64 k,dnA dn,dnA tn,v]]).node y.id with⟨f1,_⟩|⟨x',n,f1,_,_,f2,f3⟩
   .rw[s.o.ent D]at f1;cases f1
   rw[s.o.ent D]at f1;cases f1;unfold nf at f3;have E:=s.o.ok y D;have F:dn.length<=y.nm.length:=by have:=(cC.1 ad).2.2.length_le;rwa[bC,bC]at this
   have ap:=E.len;have an:=(t.o.app [.cells [.int .i64 k,dnA dn,dnA tn,v]]).n;obtain⟨yi,W⟩:=aoT (y.id);obtain⟨yn,C⟩:=aoT (y.nm);rw[W]at e1 f2 f3;rw[C]at f3 F ap E;obtain⟨q,hq⟩:=aoT (yn.length-dn.length);have w1:IntKind.i64.wrap ((yn.length:Int)-(dn.length:Int))=(q:Int):=(by rw[ae aso aso];omega);have w2:(q:Int)<=(yn.length:Int):=aso;have bi:bS .int (.int .i64 yi)=true:=rfl;obtain⟨Z,hZ⟩:=aoT (iB yn dn.length tn);have J:yn.take q++tn=Z:=(by rw[<- hZ,<- hq];rfl);have B:dnB Z:=by rw[<- J];refine⟨by simp;omega,λr hr=>?_⟩;rcases ao5.1 hr with hr|hr;exact E.m.b.2 r (arL hr);exact T.2 r hr
   have kk7:Hid (∀{c:Option Nat}{L:List Blk}{K:aoY},K (dnA Z) L->aoX 59 [dnA tn,.sl (List.take q (yn.map am)) q c] L K):=@hid _ (by intro c L K u;rw[<- arI];exact agc J (by rw[aqk];omega) rfl B.1 B.2 u)
   obtain⟨⟨zs,ze⟩,O⟩:∃u,prS Z=u:=⟨_,rfl⟩;have kk1:Hid (Ctr Tryz.prog 36 [dnA Z] (.tup [.str zs,.int .i64 ze])):=@hid _ (by intro L K u;exact lI B.1 B.2 (by rw[O];exact u));have pz:OkD Z↔ze=0:=(by unfold OkD;rw[O]);by_cases U:ze=0
   .have hI':=hid (λi (hi:i<j+1)=>show OkD (iB (a.getD i default).nm dn.length tn)from by
     by_cases e:i=j
     .subst e;rw[Y,C,hZ];exact pz.2 U
     .exact hI.o i aso)
    subst U;clear hI Y P D ad E F W C hq hZ J B O pz kk2 kk3 kk4 kk5 kk6;refine wk ?_;exact ast aso asr ⟨j+1,rfl,H,hI',rfl,rfl⟩
   .have hbad:(a.any λy => !decide (OkD (iB y.nm dn.length tn)))=true:=aqz.2 ⟨y,P,by rw[C,hZ,decide_eq_false (λc=>U (pz.1 c))];rfl⟩;have N:=h.o;rw[if_pos hbad]at N;replace N:=hid N;clear hI Y P D ad E F W C hq hZ J B O pz kk2 kk3 kk4 kk5 kk6 hbad;refine wk ?_;exact ac rfl N.o
  .have hje:j=a.length:=aso;subst hje;have g1:¬(a.length:Int)<(a.length:Int):=aso;have G:¬(a.any λy => !decide (OkD (iB y.nm dn.length tn)))=true:=λc=>by obtain⟨y,Y,hb⟩:=aqz.1 c;obtain⟨i,hi,rfl⟩:=apV.1 Y;have:=hI.o i hi;rw[show a.getD i default=a[i]by simp[hi]]at this;rw[decide_eq_true this]at hb;cases hb
   have N:=h.o;rw[if_neg G]at N;replace N:=hid N;clear hI G;refine wk ?_;exact ac rfl N.o
theorem ST{suf:List Rdn}{last:Int}{l:List aC}(w:TOk suf last l)(ar:l.length<=1100000){L:List Blk}{iv mn mi:Nat}{nb bn:Int->Nat}{ck ci:Nat}{rs:List TKy}(j:bT L iv mn mi nb bn ck ci rs suf last l){k:Int}{v:AV}(g:dnB dn)(ai:dnB tn){K:aoY}(h:K (.int .i64 (fY suf l k dn tn)) L):
  aoX 78 [.ptr iv 0,.agg [.int .i64 k,dnA dn,dnA tn,v]] L K:=by
 have i:=w.sok.m.b;have hv:=j.v;have hn:=j.n;have R:iv<L.length:=(aoZ.1 hv).1;have M:mn<L.length:=(aoZ.1 hn).1;have av:∀X:List Blk,(L++X)[iv]?=some (.cells [dnA suf,.lmap mn,.lmap mi,.int .i64 last]):=λX=>by rw[ao4 R];exact hv
 have an:∀X:List Blk,(L++X)[mn]?=some (.map (l.map (gM nb bn)) ck):=λX=>by rw[ao4 M];exact hn
 have a4:(l.map (gM nb bn)).length=l.length:=apm _;obtain⟨⟨ps,pe⟩,t⟩:∃q,prS dn=q:=⟨_,rfl⟩;have kk1:Hid (Ctr Tryz.prog 36 [dnA dn] (.tup [.str ps,.int .i64 pe])):=@hid _ (by intro L K q;exact lI g.1 g.2 (by rw[t];exact q));have kk2:Hid (∀{v:Nat}{L:List Blk}{K:aoY},K (.bool (kD dn suf)) L->aoX 123 [.ptr v 0,dnA dn,dnA suf] L K):=@hid _ (by intro v L K q;exact afJ g i q);have s:OkD dn↔pe=0:=by unfold OkD;rw[t]
 have kk3:Hid (∀{X:List Blk}{K:aoY},K (.int .i64 (bA l dn)) (L++X)->aoX 24 [.ptr iv 0,dnA dn] (L++X) K):=@hid _ (by intro X K q;exact rG g w (j.app X) q)
 obtain⟨z,p⟩:=aoT (bA l dn);have f:=w.find0 (d:=dn);rw[p]at f kk3;unfold fY at h;by_cases u:k<1\/4<k;rw[if_pos u]at h;have d1:¬k=1:=aso;have d2:¬k=2:=aso;have d3:¬k=3:=aso;have d4:¬k=4:=aso;replace h:=hid h;clear j t s g i f p;refine aoW bh ?_;exact ac rfl h.o;rw[if_neg u]at h;by_cases T:k=1
 .subst T;rw[if_pos rfl]at h;by_cases O:pe=0;rotate_left;rw[if_pos (λc=>O (s.1 c))]at h;replace h:=hid h;clear j t s g i f p u;refine aoW bh ?_;exact ac rfl h.o;have F:=s.2 O;subst O;rw[if_neg (λc=>c F)]at h;by_cases c2:z=0;rotate_left;rw[if_pos (λc=>c2 (f.2 c))]at h;have ap:0<z:=by
   cases D:atE l dn with
   |none=>exact absurd (f.2 D) c2
   | some y =>
     have:=(w.ids y (cP D).2.1).1;rw[<- p];unfold bA;rw[D];simp only;omega
  have a0:z>0:=ap;replace h:=hid h;clear j t s g i f p u;refine aoW bh ?_;exact ac rfl h.o;subst c2;rw[if_neg (λc=>c (f.1 rfl))]at h;have a1:=F.len;obtain⟨sm,Y⟩:=aoT (kD dn suf);rw[Y]at h kk2;have a:∀{h4:K (.int .i64 (if 4096<=l.length then 80 else 0)) L},(4096<=l.length/\K (.int .i64 80) L)\/(¬4096<=l.length/\K (.int .i64 0) L):=λ{h4}=>by by_cases c:4096<=l.length;rw[if_pos c]at h4;exact .inl ⟨c,h4⟩;rw[if_neg c]at h4;exact .inr ⟨c,h4⟩
  cases sm with
  | true =>
    rw[if_neg (λc=>by cases c.1)]at h;rcases a (h4:=h)with⟨c,h⟩|⟨c,h⟩
    .have c':(4096:Int)<=(l.length:Int):=aso;have G:(l.length:Int)≥4096:=c';replace h:=hid h;clear a j t s g i f p u;refine aoW bh ?_;exact ac rfl h.o
    .have c':¬(4096:Int)<=(l.length:Int):=aso;have G:¬(l.length:Int)≥4096:=c';replace h:=hid h;clear a j t s g i f p u;refine aoW bh ?_;exact ac rfl h.o
  | false =>
    by_cases c3:dn=[]
    .rw[if_pos ⟨rfl,.inl c3⟩]at h;subst c3;replace h:=hid h;clear a j t s g i f p u;refine aoW bh ?_;exact ac rfl h.o
    have a3:¬(dn.length:Int)=0:=λc=>c3 (apK.1 aso)
    have a2:(1:Int)<=(dn.length:Int):=aso;have W:dn.tail.length=dn.length-1:=aqK;have A:List.take (dn.length-1) (List.drop 1 (dn.map am))=dn.tail.map am:=(by rw[arH,List.map_tail,apA asp]);have kk4:Hid (∀{c:Option Nat}{X:List Blk}{K:aoY},K (.int .i64 (bA l dn.tail)) (L++X)->aoX 24 [.ptr iv 0,.sl (List.take (dn.length-1) (List.drop 1 (dn.map am))) (dn.length-1) c] (L++X) K):=@hid _ (by intro c X K q;rw[A,<- W];exact rG F.tail.m.b w (j.app X) q)
    have r:=w.find0 (d:=dn.tail);obtain⟨q,D⟩:=aoT (bA l dn.tail);rw[D]at r kk4;by_cases c4:q=0
    .rw[if_pos ⟨rfl,.inr (r.1 c4)⟩]at h;subst c4;replace h:=hid h;clear a j t s g i f p u A r D;refine aoW bh ?_;exact ac rfl h.o
    rw[if_neg (λc=>c.2.elim c3 λc=>c4 (r.2 c))]at h;rcases a (h4:=h)with⟨c,h⟩|⟨c,h⟩
    .have c':(4096:Int)<=(l.length:Int):=aso;have G:(l.length:Int)≥4096:=c';replace h:=hid h;clear a j t s g i f p u A r D;refine aoW bh ?_;exact ac rfl h.o
    .have c':¬(4096:Int)<=(l.length:Int):=aso;have G:¬(l.length:Int)≥4096:=c';replace h:=hid h;clear a j t s g i f p u A r D;refine aoW bh ?_;exact ac rfl h.o
 rw[if_neg T]at h;have E:k=2\/k=3\/k=4:=aso;cases hx:atE l dn with
 | none =>
   rw[hx]at h;simp only at h;have c2:z=0:=f.2 hx;subst c2;replace h:=hid h;clear j t s g i f p u T;rcases E with rfl|rfl|rfl
   all_goals
    refine aoW bh ?_;exact ac rfl h.o
 | some x =>
   rw[hx]at h;simp only at h;obtain⟨hd,B,Z⟩:=cP hx;have U:z=x.id:=(by rw[<- p];unfold bA;rw[hx]);have V:=(w.ids x B).1;have kk5:Hid (∀{X:List Blk}{K:aoY},K (.int .i64 (abZ suf l x.id dn tn)) (L++X)->aoX 124 [.ptr iv 0,.int .i64 x.id,.agg [.int .i64 k,dnA dn,dnA tn,v]] (L++X) K):=@hid _ (by intro X K q;exact amE w ar (j.app X) hx ai q)
   have al:bS .int (.int .i64 x.id)=true:=rfl;rcases j.node x.id with⟨P,_⟩|⟨x',n,P,_,_,f2,S⟩
   .rw[w.ent B]at P;cases P
   rw[w.ent B]at P;cases P;unfold nf at S;have Q:nb x.id<L.length:=(aoZ.1 S).1;have ad:∀X:List Blk,(L++X)[nb x.id]?=some (.cells [dnA x.nm,.sl (aD (pth x)) x.nm.length none,atR x.av,.int .i64 (bE (d7 l) (NK x.nm):Nat)]):=λX=>by rw[ao4 Q];exact S
   subst U;obtain⟨xi,H⟩:=aoT (x.id);obtain⟨J,I⟩:=aoT (bE (d7 l) (NK x.nm));rw[H]at kk3 kk5 al f2 ad V h;rw[I]at ad h;obtain⟨mv,N⟩:=aoT (abZ suf l xi dn tn);rw[N]at kk5 h;have g0:¬xi=0:=aso;have C:(J≠0/\k=2/\K (.int .i64 66) L)\/(J=0/\k=2/\K (.int .i64 0) L)\/(k=3/\K (.int .i64 0) L)\/(k=4/\K (.int .i64 mv) L):=by
    rcases E with rfl|rfl|rfl
    .by_cases c:J=0
     .rw[if_pos rfl,if_neg (λe=>e c)]at h;exact .inr (.inl ⟨c,rfl,h⟩)
     .rw[if_pos rfl,if_pos c]at h;exact .inl ⟨c,rfl,h⟩
    .rw[if_neg (by decide),if_pos rfl]at h;exact .inr (.inr (.inl ⟨rfl,h⟩))
    .rw[if_neg (by decide),if_neg (by decide)]at h;exact .inr (.inr (.inr ⟨rfl,h⟩))
   clear h j t s g i f p u T E B Z H I N hx S;rcases C with⟨c,rfl,h⟩|⟨c,rfl,h⟩|⟨rfl,h⟩|⟨rfl,h⟩
   .have O:(0:Int)<(J:Int):=aso;have c2:(J:Int)>0:=O;replace h:=hid h;refine aoW bh ?_;exact ac rfl h.o
   .subst c;replace h:=hid h;refine aoW bh ?_
    all_goals exact ac rfl h.o
   .replace h:=hid h;refine aoW bh ?_;exact ac rfl h.o
   .replace h:=hid h;refine aoW bh ?_;exact ac rfl h.o
section
variable {L:List Blk}{iv mn mi it:Nat}{nb bn:Int->Nat}{ck ci:Nat}{rs:List TKy}{suf:List Rdn}{last:Int}{l lk:List aC}{kd:Int->Int}
theorem bY.kds(h:bY L iv mn mi nb bn ck ci rs suf last l lk kd){a:Int->Int}(e:∀x∈l,a x.id=kd x.id):bY L iv mn mi nb bn ck ci rs suf last l lk a :=
 ⟨h.v,h.n,h.i,λx b=>by rw[h.nd x b];unfold dI;rw[e x b],h.inj,h.keys,h.mem,h.bnd,h.blt⟩
theorem bY.noIt(h:bY L iv mn mi nb bn ck ci rs suf last l lk kd)(a:L[it]?=some (.cells [.ptr iv 0])):¬OfT iv mn mi nb l it:=by rintro(e|e|e|⟨x,b,e⟩);rw[e,h.v]at a;simp at a;rw[e,h.n]at a;simp at a;rw[e,h.i]at a;simp at a;rw[e,h.nd x b]at a;simp[dI]at a
theorem Od{d:List Rdn}{cap:Option Nat}{b:Int}(o:dnB d)(c:d≠[])(n:TOk suf last lk)(a:∀x∈lk,∃y∈l,y.id=x.id)(m:∀x∈l,1<=x.id)(j:L[it]?=some (.cells [.ptr iv 0]))(f:bY L iv mn mi nb bn ck ci rs suf last l lk kd)(p : -1<=b/\b<=1)(k:∀i,-10000000<=kd i/\kd i<=10000000){K:aoY}(h:∀L',bY L' iv mn mi nb bn ck ci rs suf last l lk (λi=>if i=bA lk d.tail then kd i+b else kd i)->aZ (OfT iv mn mi nb l) L L'->K (.tup []) L'):
  aoX 80 [.ptr it 0,.sl (d.map am) d.length cap,.int .i64 b] L K:=by
 refine aiY o c n a j f p k (λq=>?_) (λx g e=>?_);refine h L (f.kds λx g=>?_) (aZ.refl L)
 grind
 refine h _ ?_ (aZ.set L (.inr (.inr (.inr ⟨x,g,rfl⟩))) _);rw[<- e];exact f.kid g b
theorem bT.added(f:bT L iv mn mi nb bn ck ci rs suf last l)(K:TOk suf last l)(t:mn≠mi)(j:L[it]?=some (.cells [.ptr iv 0])){dn:List Rdn}(J:OkD dn)(E:∀x∈l,NK x.nm≠NK dn)(v:List Atr)(h a0 X:Blk)(A B:List Blk)(w:A=(L.set iv (.cells [dnA suf,.lmap mn,.lmap mi,.int .i64 (last+1)])).set mn (.map ((l.map (gM nb bn))++[(.int .i64 (last+1),.ptr (L.length+1) 0,ck)]) (ck+1)))(hB:B=((A++[h,a0]).set (L.length+1) (.cells [dnA dn,.sl (aD (NK dn).reverse) dn.length none,atR v,.int .i64 0])).set mi (.map ((rs++[(bj true dn,last+1,ci)]).map kyA) (ci+1))++[X]):
  bY B iv mn mi (λi=>if i=last+1 then L.length+1 else nb i) (λi=>if i=last+1 then ck else bn i) (ck+1) (ci+1) (rs++[(bj true dn,last+1,ci)]) suf (last+1) (tP l last dn v) (tP l last dn v) (λi=>if i=last+1 then 0 else(iP l i:Nat))/\aZ (OfT iv mn mi nb l) L B /\
  (A++[h,a0])[it]?=some (.cells [.ptr iv 0])/\(A++[h,a0])[iv]?=some (.cells [dnA suf,.lmap mn,.lmap mi,.int .i64 (last+1)])/\(A++[h,a0])[mn]?=some (.map ((l.map (gM nb bn))++[(.int .i64 (last+1),.ptr (L.length+1) 0,ck)]) (ck+1))/\(A++[h,a0])[mi]?=some (.map (rs.map kyA) ci)/\(A++[h,a0])[L.length+1]?=some a0 /\
  dG (.int .i64 (last+1)) ((l.map (gM nb bn))++[(.int .i64 (last+1),.ptr (L.length+1) 0,ck)]) 0=some (some (l.length,.ptr (L.length+1) 0))/\dG (.str (bj true dn)) (rs.map kyA) 0=some none/\dG (.int .i64 (last+1)) (l.map (gM nb bn)) 0=some none:=by
 have T:=f.toK K;have M:=(aoZ.1 f.v).1;have D:=(aoZ.1 f.n).1;have h3:=(aoZ.1 f.i).1;have h4:=(aoZ.1 j).1;have C:iv≠mn:=λe=>by have:=f.v;rw[e,f.n]at this;simp at this
 have q:iv≠mi:=λe=>by have:=f.v;rw[e,f.i]at this;simp at this
 have Z:A.length=L.length:=by rw[w];simp
 have U:∀i,i≠iv->i≠mn->A[i]?=L[i]?:=λi a b=>by rw[w,api (Ne.symm b),api (Ne.symm a)]
 have Q:A[iv]?=some (.cells [dnA suf,.lmap mn,.lmap mi,.int .i64 (last+1)]):=by rw[w,api (Ne.symm C)];simp[M]
 have O:A[mn]?=some (.map ((l.map (gM nb bn))++[(.int .i64 (last+1),.ptr (L.length+1) 0,ck)]) (ck+1)):=by rw[w];simp[D]
 have F:∀i,i<L.length->(A++[h,a0])[i]?=A[i]?:=λi P=>ao4 aso
 have I:∀i,i<L.length->i≠mi->B[i]?=A[i]?:=λi P hm=>by grind
 have G:B[mi]?=some (.map ((rs++[(bj true dn,last+1,ci)]).map kyA) (ci+1)):=by grind
 have N:B[L.length+1]?=some (.cells [dnA dn,.sl (aD (NK dn).reverse) dn.length none,atR v,.int .i64 0]):=by simp[*]
 have d:∀x∈l,x.id≠last+1:=λx c e=>by have:=(K.ids x c).2;omega
 have s:∀x∈l,nb x.id<L.length:=λx c=>(aoZ.1 (f.nd x c)).1
 have V:∀x∈l,bj true x.nm≠bj true dn:=λx c e=>E x c ((kw (K.ok x c) J).1 e)
 have ad:∀r∈rs,r.1≠bj true dn:=λr W e=>by obtain⟨x,c,R,_⟩:=(f.mem r.1 r.2.1).1 ⟨r.2.2,W⟩;simp_all
 have o:(tP l last dn v).map (gM (λi=>if i=last+1 then L.length+1 else nb i) (λi=>if i=last+1 then ck else bn i))=l.map (gM nb bn)++[(.int .i64 (last+1),.ptr (L.length+1) 0,ck)]:=by
  unfold tP;rw[apz];congr 1;refine aqj λx c=>?_
  simp only[gM,if_neg (d x c)];simp[gM]
 refine⟨⟨by rw[I iv M q];exact Q,by rw[I mn D t,O,o],G,λx c=>?_,λx c y u e=>?_,?_,λk id=>?_,?_,λx c=>?_⟩,⟨by rw[hB];simp;omega,λi P z=>?_⟩,?_,by rw[F iv M];exact Q,by rw[F mn D];exact O,by rw[F mi h3,U mi (Ne.symm q) (Ne.symm t)];exact f.i,?_,?_,?_,?_⟩;rcases ao5.1 c with c|c;have p:=T.nd x c;have H:=d x c;have m1:nb x.id≠iv:=λe=>by rw[e,f.v]at p;simp[dI]at p
 have m2:nb x.id≠mn:=λe=>by rw[e,f.n]at p;simp at p
 have Y:nb x.id≠mi:=λe=>by rw[e,f.i]at p;simp at p
 simp only[if_neg H];rw[I _ (s x c) Y,U _ m1 m2,p];unfold dI;simp[*];rw[apr.1 c];simp only[if_true];rw[N];simp only[dI,pth,if_true];rcases ao5.1 c with c|c<;>rcases ao5.1 u with u|u;simp only[if_neg (d x c),if_neg (d y u)]at e;exact T.inj x c y u e
 grind
 grind
 simp_all;rw[apz,arp];refine⟨f.keys,asp,λa S b m e=>?_⟩
 grind
 constructor;rintro⟨b,m⟩;rcases ao5.1 m with m|m;obtain⟨x,c,e⟩:=(f.mem k id).1 ⟨b,m⟩;exact⟨x,aqh _ c,e⟩;simp only[apr,apf]at m;exact⟨_,aqP _ (apr.2 rfl),m.1.symm,m.2.1.symm⟩;rintro⟨x,c,R,e2⟩;rcases ao5.1 c with c|c;obtain⟨b,m⟩:=(f.mem k id).2 ⟨x,c,R,e2⟩
 grind
 simp_all;unfold tP;rw[apz,arp];refine⟨?_,asp,λa S b m e=>?_⟩;rw[aqj (g:=λx=>bn x.id) λx c=>by simp only[if_neg (d x c)]];exact f.bnd;obtain⟨x,c,rfl⟩:=ao6.1 S;simp only[apv,aqI,apr,if_true]at m;simp only[if_neg (d x c)]at e;have:=f.blt x c;omega;rcases ao5.1 c with c|c;simp only[if_neg (d x c)];have:=f.blt x c;omega;simp_all;have b1:i≠iv:=λe=>z (.inl e)
 have b2:i≠mn:=λe=>z (.inr (.inl e))
 have b3:i≠mi:=λe=>z (.inr (.inr (.inl e)))
 grind
 have b1:it≠iv:=λe=>by rw[e,f.v]at j;simp at j
 have b2:it≠mn:=λe=>by rw[e,f.n]at j;simp at j
 grind
 simp[*];rw[<- o,Ee];have:(tP l last dn v).findIdx? (λx=>decide (x.id=last+1))=some l.length:=by
  unfold tP
  grind
 simp[*];rw[Eg]
 grind
 rw[Ee];simp_all
end
set_option maxHeartbeats 8000000
set_option maxRecDepth 100000
section
variable {L:List Blk}{iv mn mi it:Nat}{nb bn:Int->Nat}{ck ci:Nat}{rs:List TKy}{suf:List Rdn}{last:Int}{l:List aC}
theorem aod(r:TOk suf last l)(Z:mn≠mi)(bi:l.length<=1000000)(ar:0<=last)(bb:last<=1000000)(j:L[it]?=some (.cells [.ptr iv 0]))(w:bT L iv mn mi nb bn ck ci rs suf last l){dn tn:List Rdn}{v:List Atr}(O:dnB dn)(ap:dnB tn)(ad:v.length<=1100000)(al:∀a∈v,a.2.length<=1100000)(ha:fY suf l 1 dn tn=0){K:aoY}(h:∀L' D E C F z,bT L' iv mn mi D E C F z suf (last+1) (tP l last dn v)->L'[it]?=some (.cells [.ptr iv 0])->aZ (OfT iv mn mi nb l) L L'->K (.int .i64 0) L'):
  aoX 34 [.ptr it 0,.agg [.int .i64 1,dnA dn,dnA tn,atR v]] L K:=by
 obtain⟨p,_⟩:=r.canA ha;have M:=p.ok;have a0:bA l dn=0:=r.find0.2 (tO.2 λ_ x f=>p.no x f);have Q:=w.v;have N:=w.n;have m:iv<L.length:=(aoZ.1 Q).1;have G:mn<L.length:=(aoZ.1 N).1;have I:it<L.length:=(aoZ.1 j).1;have an:iv≠mn:=λe=>by have:=w.v;rw[e,w.n]at this;simp at this
 have ai:iv≠it:=λe=>by have:=w.v;rw[e,j]at this;simp at this
 have av:∀X:List Blk,(L++X)[iv]?=some (.cells [dnA suf,.lmap mn,.lmap mi,.int .i64 last]):=λX=>by rw[ao4 m];exact Q
 have a4:∀X:List Blk,(L++X)[it]?=some (.cells [.ptr iv 0]):=λX=>by rw[ao4 I];exact j
 have sv:∀(X:List Blk) b,(L++X).set iv b=L.set iv b++X:=λX b=>ap3 _ _ m
 have a9:∀(X:List Blk) b,(L.set iv b++X)[iv]?=some b:=λX b=>by rw[ao4 (by simpa using m)];simp[m]
 have a8:∀(X:List Blk) b,(L.set iv b++X)[it]?=some (.cells [.ptr iv 0]):=λX b=>by rw[ao4 (by simpa using I),api ai];exact j
 have bl:∀(X:List Blk) b,(L.set iv b++X)[mn]?=some (.map (l.map (gM nb bn)) ck):=λX b=>by rw[ao4 (by simpa using G),api an];exact N
 have a_:∀(X:List Blk) b c,(L.set iv b++X).set mn c=(L.set iv b).set mn c++X:=λX b c=>ap3 _ _ (by simpa using G)
 have a5:∀(X:List Blk) (b c:Blk),(L.set iv b++c::X)[L.length]?=some c:=λX b c=>by rw[ape asp];simp
 have a6:∀(X:List Blk) (b c d:Blk),((L.set iv b).set mn d++c::X)[L.length]?=some c:=λX b c d=>by rw[ape asp];simp
 have kk1:Hid (∀{X:List Blk}{K:aoY},K (.int .i64 0) (L++X)->aoX 78 [.ptr iv 0,.agg [.int .i64 1,dnA dn,dnA tn,atR v]] (L++X) K):=@hid _ (by intro X K q;exact ST r aso (w.app X) O ap (by rw[ha];exact q))
 have kk2:Hid (∀{X:List Blk}{K:aoY},K (.int .i64 0) (L++X)->aoX 24 [.ptr iv 0,dnA dn] (L++X) K):=@hid _ (by intro X K q;exact rG O r (w.app X) (by rw[a0];exact q))
 have kk3:Hid (Ctr Tryz.prog 60 [atR v] (atR v)):=@hid _ (by intro L K q;exact Ym ad al q);have w1:IntKind.i64.wrap (last+1)=last+1:=ae aso aso;have a':bS .int (.int .i64 (last+1))=true:=rfl;have a3:∀b,(L.set iv b).length=L.length:=λb=>List.length_set
 obtain⟨k,T⟩:∃k:Blk,k=.cells [.int .i64 1,dnA dn,dnA tn,atR v]:=⟨_,rfl⟩;obtain⟨A,hA⟩:=aoT ((L.set iv (.cells [dnA suf,.lmap mn,.lmap mi,.int .i64 (last+1)])).set mn (.map ((l.map (gM nb bn))++[(.int .i64 (last+1),.ptr (L.length+1) 0,ck)]) (ck+1)));obtain⟨B,W⟩:=aoT (((A++[k,.cells [.sl [] 0 (some 0),.sl [] 0 (some 0),atR v,.int .i64 0]]).set (L.length+1) (.cells [dnA dn,.sl (aD (NK dn).reverse) dn.length none,atR v,.int .i64 0])).set mi (.map ((rs++[(bj true dn,last+1,ci)]).map kyA) (ci+1))++[.cells [.sl (aD (NK dn).reverse) dn.length none]]);have J:A.length=L.length:=by rw[<- hA];simp
 have a2:mi<L.length:=(aoZ.1 w.i).1;obtain⟨u,t,p1,p2,p3,p4,p5,p6,p7,p8⟩:=w.added r Z j M p.no v k (.cells [.sl [] 0 (some 0),.sl [] 0 (some 0),atR v,.int .i64 0]) (.cells [.sl (aD (NK dn).reverse) dn.length none]) A B hA.symm W.symm;have pb:B[L.length]?=some k:=by rw[<- W,ao4 (by simp;omega),api aso,api aso,ape aso,J];simp
 have bk:(A++[k,.cells [.sl [] 0 (some 0),.sl [] 0 (some 0),atR v,.int .i64 0]])[L.length]?=some k:=by rw[ape aso,J];simp
 have s:B[it]?=some (.cells [.ptr iv 0]):=t.get j ((w.toK r).noIt j);obtain⟨g,R,P⟩:=r.add ar p v;have kk4:Hid (∀{K:aoY},K (.tup []) B->aoX 79 [.ptr it 0,.int .i64 (last+1),dnA dn] (A++[k,.cells [.sl [] 0 (some 0),.sl [] 0 (some 0),atR v,.int .i64 0]]) K):=@hid _ (by intro K q;refine aij M p1 p2 p3 p6 p5 p4 p7 ?_;rw[W];exact q)
 have kk5:Hid (∀{K:aoY},(∀L' D E C F z,bT L' iv mn mi D E C F z suf (last+1) (tP l last dn v)->L'[it]?=some (.cells [.ptr iv 0])->aZ (OfT iv mn mi nb l) L L'->K (.tup []) L')->aoX 80 [.ptr it 0,dnA dn,.int .i64 1] B K):=@hid _ (by
  intro K q;have a1:dn≠[]:=λe=>by rcases p.par with U|⟨x,f,U⟩;exact r.inv.sne (by rw[<- U,e];rfl);exact r.inv.ne (gN f) (by rw[U,e];rfl)
  have Y:∀i,(iP l i:Int)<=l.length:=λi=>by
   unfold iP bE;cases o4 l i with
   |none=>simp
   |some x=>simp only;exact Int.ofNat_le.2 (apk (ap4 _ _) (by simp[d7]))
  refine Od O a1 g (λx f=>⟨x,f,rfl⟩) (λx f=>(g.ids x f).1) s u aso (λi=>?_) λL' hK hb=>?_
  split;omega;have:=Y i;omega;refine q L' _ _ _ _ _ (hK.toT λx f=>?_) (hb.get s (u.noIt s)) (t.trans2 hb λi hi=>?_);rw[P (NK x.nm)];have H:(x.id=bA (tP l last dn v) dn.tail)↔(NK dn).tail=NK x.nm:=by
   rw[<- V2];constructor;intro e;unfold bA at e;cases hq:atE (tP l last dn v) dn.tail with
   |none=>rw[hq]at e;have:=(g.ids x f).1;simp only at e;omega
   | some y =>
     rw[hq]at e;obtain⟨_,hy,U⟩:=cP hq;rw[g.byI f hy e,U]
   intro e;unfold bA;rw[g.at f M.tail e]
  have S:(if x.id=last+1 then(0:Int)else(iP l x.id:Nat))=(bE (d7 l) (NK x.nm):Nat):=by rcases ao5.1 f with f|f;rw[if_neg (by have:=(r.ids x f).2;omega),r.kidsE f];rw[apr.1 f,if_pos rfl];have:=P (NK dn);rw[R]at this;simp only;omega
  by_cases V:(NK dn).tail=NK x.nm;rw[if_pos V,if_pos (H.2 V),S];simp;rw[if_neg V,if_neg (λe=>V (H.1 e)),S];simp;rintro(e|e|e|⟨x,f,e⟩);exact .inl e;exact .inr (.inl e);exact .inr (.inr (.inl e));rcases ao5.1 f with f|f;exact .inr (.inr (.inr ⟨x,f,by rw[e];exact if_neg (by have:=(r.ids x f).2;omega)⟩));rw[apr.1 f]at e;simp only[if_true]at e;omega)
 replace h:=hid h;clear W u t p6 p7 g R P p Q N j J;subst T;refine aoW fV ?_;simp only[apb,apJ,Nat.reduceAdd,arl,aq4,apH,apx];refine asw ?_;intro L' D E C F z q1 q2 q3;replace q1:=hid q1;replace q2:=hid q2;replace q3:=hid q3;refine wk ?_;exact aa (h.o L' _ _ _ _ _ q1.o q2.o q3.o)
end
set_option maxHeartbeats 8000000
set_option maxRecDepth 100000
theorem Wc{β γ:Type}(f:β->γ):∀(l:List β) (n:Nat),(l.eraseIdx n).map f=(l.map f).eraseIdx n
 |[],_=>rfl
 |x::l,0=>rfl
 |x::l,n+1=>by simp only[List.eraseIdx_cons_succ,apv,Wc f l n]
theorem pg{β γ:Type}[DecidableEq γ](f:β->γ):∀(l:List β) (k:γ),(l.map f).Nodup->∀n,l.findIdx? (λx=>decide (f x=k))=some n->l.eraseIdx n=l.filter λx=>decide (f x≠k)
 |[],k,_,n,h=>by simp at h
 | x::l,k,hn,n,h=>by
   rw[apv,aqi]at hn;rw[aqV]at h;by_cases c:f x=k
   .rw[decide_eq_true c]at h;simp only[if_true,ao1]at h;subst h;rw[List.filter_cons_of_neg (by simpa using c)];exact(List.filter_eq_self.2 λy a=>by simp only[ne_eq,decide_eq_true_eq];intro e;exact hn.1 (ao6.2 ⟨y,a,by rw[e,c]⟩)).symm
   .rw[decide_eq_false c]at h;simp only[apj,if_false,apE]at h;obtain⟨m,b,rfl⟩:=h;rw[List.filter_cons_of_pos (by simpa using c),List.eraseIdx_cons_succ,pg f l k hn.2 m b]
section
variable {L:List Blk}{iv mn mi it:Nat}{nb bn:Int->Nat}{ck ci:Nat}{rs:List TKy}{suf:List Rdn}{last:Int}{l lk:List aC}{kd:Int->Int}
theorem bY.nemi(h:bY L iv mn mi nb bn ck ci rs suf last l lk kd):iv≠mi:=λe=>by have:=h.v;rw[e,h.i]at this;simp at this
theorem bY.nemn(h:bY L iv mn mi nb bn ck ci rs suf last l lk kd):iv≠mn:=λe=>by have:=h.v;rw[e,h.n]at this;simp at this
theorem bY.nenb(h:bY L iv mn mi nb bn ck ci rs suf last l lk kd){x:aC}(b:x∈l):nb x.id≠iv/\nb x.id≠mn/\nb x.id≠mi:=by have a:=h.nd x b;exact⟨λe=>by rw[e,h.v]at a;simp[dI]at a,λe=>by rw[e,h.n]at a;simp at a,λe=>by rw[e,h.i]at a;simp at a⟩
theorem bY.delk(h:bY L iv mn mi nb bn ck ci rs suf last l lk kd)(u:mn≠mi){y:aC}(D:y∈lk)(H:∀x∈lk,bj true x.nm=bj true y.nm↔x.id=y.id):
  ∃j,dG (.str (bj true y.nm)) (rs.map kyA) 0=some (some (j,.int .i64 y.id))/\bY (L.set mi (.map ((rs.map kyA).eraseIdx j) ci)) iv mn mi nb bn ck ci (rs.eraseIdx j) suf last l (VM lk y.id) kd:=by
 obtain⟨b,C⟩:=(h.mem (bj true y.nm) y.id).2 ⟨y,D,rfl,rfl⟩;rw[Eg];rcases fR (f:=λr:TKy=>decide (r.1=bj true y.nm)) (l:=rs)with⟨s,g⟩|⟨n,s,G,g⟩
 grind
 have B:=aqT g;have z:=aqU g;simp only[decide_eq_true_eq]at z;have E:rs.getD n default=(bj true y.nm,y.id,b):=f9 h.keys B C z;have o:=(aoZ.1 h.i).1;have p:=pg (λr:TKy=>r.1) rs (bj true y.nm) h.keys n s;refine⟨n,by rw[s];simp only[apl,E,ap9],?_⟩;have e:∀r:TKy,r∈rs.eraseIdx n↔r∈rs/\r.1≠bj true y.nm:=λr=>by rw[p,apC];simp
 refine⟨by rw[api (Ne.symm h.nemi)];exact h.v,by rw[api (Ne.symm u)];exact h.n,by rw[aqL o,Wc],λx a=>by rw[api (Ne.symm (h.nenb a).2.2)];exact h.nd x a,h.inj,(List.Sublist.map _ (List.eraseIdx_sublist ..)).nodup h.keys,λk id=>?_,h.bnd,h.blt⟩;constructor;rintro⟨c,w⟩;obtain⟨m,F⟩:=(e _).1 w;obtain⟨x,a,d,q⟩:=(h.mem k id).1 ⟨c,m⟩;refine⟨x,apC.2 ⟨a,?_⟩,d,q⟩
 grind
 rintro⟨x,a,d,q⟩;obtain⟨t,A⟩:=apC.1 a;obtain⟨c,w⟩:=(h.mem k id).2 ⟨x,t,d,q⟩
 grind
theorem bY.deln(h:bY L iv mn mi nb bn ck ci rs suf last l lk kd)(e:mn≠mi)(g:(l.map (·.id)).Nodup){y:aC}(p:y∈l):
  ∃j v,dG (.int .i64 y.id) (l.map (gM nb bn)) 0=some (some (j,v))/\bY (L.set mn (.map ((l.map (gM nb bn)).eraseIdx j) ck)) iv mn mi nb bn ck ci rs suf last (VM l y.id) lk kd:=by
 rw[Ee];rcases fR (f:=λx:aC=>decide (x.id=y.id)) (l:=l)with⟨d,k⟩|⟨n,d,o,k⟩
 grind
 have b:=(aoZ.1 h.n).1;have c:=pg (λx:aC=>x.id) l y.id g n d;have sub:∀x∈VM l y.id,x∈l:=λx a=>(apC.1 a).1
 refine⟨n,_,by rw[d];simp;rfl,?_⟩;refine⟨by rw[api (Ne.symm h.nemn)];exact h.v,by rw[aqL b,<- Wc,c];rfl,by rw[api e];exact h.i,λx a=>by rw[api (Ne.symm (h.nenb (sub x a)).2.1)];exact h.nd x (sub x a),λx a z m=>h.inj x (sub x a) z (sub z m),h.keys,h.mem,?_,λx a=>h.blt x (sub x a)⟩;exact(List.Sublist.map _ List.filter_sublist).nodup h.bnd
theorem bY.cha(h:bY L iv mn mi nb bn ck ci rs suf last l lk kd){y:aC}(q:y∈l)(v:List Atr):
  bY (L.set (nb y.id) (.cells [dnA y.nm,.sl (aD (pth y)) y.nm.length none,atR v,.int .i64 (kd y.id)])) iv mn mi nb bn ck ci rs suf last (rJ l y.id v) (rJ lk y.id v) kd:=by
 have o:=h.nd y q;have H:=(aoZ.1 o).1;obtain⟨D,B,n3⟩:=h.nenb q;have f:(rJ l y.id v).map (gM nb bn)=l.map (gM nb bn):=by
  unfold rJ;rw[apq];refine aqj λx _=>?_
  simp only[aro];split<;>rfl
 have p:(rJ l y.id v).map (λx=>bn x.id)=l.map (λx=>bn x.id):=by
  unfold rJ;rw[apq];refine aqj λx _=>?_
  grind
 have back:∀{m:List aC} {x},x∈rJ m y.id v->∃z∈m,z.id=x.id/\z.nm=x.nm/\(z.id=y.id->x.av=v)/\(z.id≠y.id->x=z):=λ{m x} d=>by
  obtain⟨z,c,rfl⟩:=ao6.1 d
  grind
 have r:∀{m:List aC} {z},z∈m->∃x∈rJ m y.id v,x.id=z.id/\x.nm=z.nm:=λ{m z} c=>by refine⟨_,ao6.2 ⟨z,c,rfl⟩,?_,?_⟩<;>split<;>rfl
 refine⟨by rw[api D];exact h.v,by rw[api B,f];exact h.n,by rw[api n3];exact h.i,λx d=>?_,λx d z c e=>?_,h.keys,λk id=>?_,by rw[p];exact h.bnd,λx d=>?_⟩;obtain⟨z,c,g,t,E,A⟩:=back d;by_cases e:nb y.id=nb z.id;have F:=h.inj y q z c e;have s:dI kd y=dI kd z:=by have G:=h.nd z c;simp_all
 unfold dI at s⊢;have I:pth x=pth z:=by unfold pth;rw[t]
 simp_all;have j:z.id≠y.id:=λu=>e (by rw[u])
 rw[A j,api e];exact h.nd z c;obtain⟨a,w,g,_⟩:=back d;obtain⟨b,C,t,_⟩:=back c;rw[<- g,<- t]at e⊢;exact h.inj a w b C e;rw[h.mem k id]
 grind
 obtain⟨z,c,g,_⟩:=back d;rw[<- g];exact h.blt z c
def nmT(l:List aC)(id:Int)(d:List Rdn):List aC:=l.map λx=>if x.id=id then{x with nm:=d}else x
theorem bY.ren(h:bY L iv mn mi nb bn ck ci rs suf last l lk kd)(t:mn≠mi){y:aC}(w:y∈l){d:List Rdn}(F:∀x∈lk,bj true x.nm≠bj true d)(X:List Blk):
  dG (.str (bj true d)) (rs.map kyA) 0=some none /\
  bY ((L.set (nb y.id) (.cells [dnA d,.sl (aD (NK d).reverse) d.length none,atR y.av,.int .i64 (kd y.id)])).set mi (.map ((rs++[(bj true d,y.id,ci)]).map kyA) (ci+1))++X) iv mn mi nb bn ck (ci+1) (rs++[(bj true d,y.id,ci)]) suf last (nmT l y.id d) (lk++[{y with nm:=d}]) kd:=by
 have s:∀r∈rs,r.1≠bj true d:=λr p e=>by obtain⟨x,c,j,_⟩:=(h.mem r.1 r.2.1).1 ⟨r.2.2,p⟩;simp_all
 refine⟨by rw[Eg,List.findIdx?_eq_none_iff.2 λr p=>by simpa using s r p];rfl,bY.app ?_ X⟩;have B:=h.nd y w;have N:=(aoZ.1 B).1;have u:=(aoZ.1 h.i).1;obtain⟨G,K,n3⟩:=h.nenb w;have m:(nmT l y.id d).map (gM nb bn)=l.map (gM nb bn):=by
  unfold nmT;rw[apq];refine aqj λx _=>?_
  simp only[aro];split<;>rfl
 have q:(nmT l y.id d).map (λx=>bn x.id)=l.map (λx=>bn x.id):=by
  unfold nmT;rw[apq];refine aqj λx _=>?_
  grind
 have back:∀{x},x∈nmT l y.id d->∃z∈l,z.id=x.id/\z.av=x.av/\(z.id=y.id->x.nm=d)/\(z.id≠y.id->x=z):=λ{x} c=>by
  obtain⟨z,f,rfl⟩:=ao6.1 c
  grind
 refine⟨by rw[api (Ne.symm h.nemi),api G];exact h.v,by rw[api (Ne.symm t),api K,m];exact h.n,by rw[aqL (by simpa using u)],λx c=>?_,λx c z f e=>?_,?_,λk id=>?_,by rw[q];exact h.bnd,λx c=>?_⟩;obtain⟨z,f,j,o,E,J⟩:=back c;rw[<- j,api (Ne.symm (h.nenb f).2.2)];by_cases e:nb y.id=nb z.id;have H:=h.inj y w z f e;have A:dI kd y=dI kd z:=by have O:=h.nd z f;simp_all
 unfold dI at A⊢;have M:pth x=(NK d).reverse:=by unfold pth;rw[E H.symm]
 simp_all;have C:z.id≠y.id:=λI=>e (by rw[I])
 rw[J C,api e];exact h.nd z f;obtain⟨a,D,j,_⟩:=back c;obtain⟨b,g,o,_⟩:=back f;rw[<- j,<- o]at e⊢;exact h.inj a D b g e;rw[apz,arp];refine⟨h.keys,asp,λa D b g e=>?_⟩
 grind
 constructor;rintro⟨b,g⟩;rcases ao5.1 g with g|g;obtain⟨x,c,e⟩:=(h.mem k id).1 ⟨b,g⟩
 grind
 simp_all;rintro⟨x,c,j,o⟩;rcases ao5.1 c with c|c;obtain⟨b,g⟩:=(h.mem k id).2 ⟨x,c,j,o⟩
 grind
 simp_all;obtain⟨z,f,j,_⟩:=back c;rw[<- j];exact h.blt z f
end
end Go.Proofs.YtdnfjhflkkpokaaGreatDoor.Av
