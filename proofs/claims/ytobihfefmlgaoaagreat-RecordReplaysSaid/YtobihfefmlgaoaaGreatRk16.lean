/- Joined texts of the walk, made small by a program. -/
import Derived.Test.YtobihfefmlgaoaaGreatRk13
import Derived.Test.YtobihfefmlgaoaaGreatRk4
import Derived.Test.YtobihfefmlgaoaaGreatRows
import Derived.KernelRfl
import Derived.Test.YtobihfefmlgaoaaGreatRk7
set_option linter.unusedSimpArgs false
set_option linter.unusedVariables false
namespace Go.Proofs.YtobihfefmlgaoaaGreat.Av
open Go
set_option maxHeartbeats 8000000
set_option maxRecDepth 100000
def lpN (p:Nat->Nd×Nat×Int) (stop:Nat):Nat->Nat->List Nd->List Nd×Nat×Int
 | 0,pos,acc=>(acc,pos,0)
 | F+1,pos,acc=>if stop<=pos then (acc,pos,0) else if (p pos).2.2≠0 then (acc++[(p pos).1],(p pos).2.1,(p pos).2.2) else lpN p stop F (p pos).2.1 (acc++[(p pos).1])
def szN (s:List UInt8) (pos:Nat):Nat×Nat :=
 if 128<(s.getD (pos+1) 0).toNat then (kw ((s.drop (pos+2)).take ((s.getD (pos+1) 0).toNat - 128)),pos+2+((s.getD (pos+1) 0).toNat - 128)) else ((s.getD (pos+1) 0).toNat,pos+2)
def elN:Nat->List UInt8->Nat->Nat->Nd×Nat×Int
 | 0,_,_,pos=>(bd,pos,6)
 | f+1,s,e,pos =>
   if e<=pos then (bd,pos,3) else
   if (s.getD pos 0).toNat % 32=31 then (bd,pos,7) else
   if e<=pos+1 then (bd,pos,3) else
   if (s.getD (pos+1) 0).toNat=128\/132<(s.getD (pos+1) 0).toNat then (bd,pos+2,8) else
   if 128<(s.getD (pos+1) 0).toNat/\e - (pos+2)<(s.getD (pos+1) 0).toNat - 128 then (bd,pos+2,3) else
   if 128<(s.getD (pos+1) 0).toNat/\1048576<(szN s pos).1 then (bd,pos+2,5) else
   if e - (szN s pos).2<(szN s pos).1 then (bd,(szN s pos).2,3) else
   if (s.getD pos 0).toNat / 32 % 2=0 then (.mk (s.getD pos 0).toNat ((s.drop (szN s pos).2).take (szN s pos).1) [],(szN s pos).2+(szN s pos).1,0) else
   (.mk (s.getD pos 0).toNat [] (lpN (elN f s ((szN s pos).2+(szN s pos).1)) ((szN s pos).2+(szN s pos).1) (szN s pos).1 (szN s pos).2 []).1,(lpN (elN f s ((szN s pos).2+(szN s pos).1)) ((szN s pos).2+(szN s pos).1) (szN s pos).1 (szN s pos).2 []).2)
def slN (s:List UInt8) (a e:Nat):List UInt8:=(s.drop a).take (e - a)
theorem ZG {s:List UInt8} {a e:Nat} (he:e<=s.length):(slN s a e).length=e - a:=by simp [slN];omega
theorem OP {s:List UInt8} {a e:Nat} (he:e<=s.length):slN s a e=[]↔e<=a:=by
 rw [<- ahX,ZG he];omega
theorem ZH {s:List UInt8} {a e i:Nat} (h:a+i<e):(slN s a e).getD i 0=s.getD (a+i) 0:=by
 simp only [slN,ahE];rw [aib (by omega),aia]
theorem Tk {s:List UInt8} {a e i:Nat}:(slN s a e).drop i=slN s (a+i) e:=by
 simp only [slN,List.drop_take,aj3]
 congr 1;omega
theorem W2 {s:List UInt8} {a e i:Nat} (h:a+i<=e):(slN s a e).take i=slN s a (a+i):=by
 simp only [slN,List.take_take]
 congr 1;omega
def ElP (f:Nat) (s:List UInt8) (e pos:Nat):Prop :=
 match gH f (slN s pos e) with
 | .error c=>(elN f s e pos).2.2=c
 | .ok (n,r)=>∃ p,elN f s e pos=(n,p,0)/\pos<p/\p<=e/\r=slN s p e
theorem Z5 {f:Nat} {s:List UInt8} {stop:Nat} (hst:stop<=s.length) (ih:∀ pos,pos<=stop->ElP f s stop pos):∀ (F pos:Nat) (acc:List Nd),pos<=stop->stop - pos<=F ->
  match lh (gH f) F (slN s pos stop) with
  | .error c=>(lpN (elN f s stop) stop F pos acc).2.2=c
  | .ok ks=>lpN (elN f s stop) stop F pos acc=(acc++ks,stop,0)
 | 0,pos,acc,hp,hF=>by
   have e:slN s pos stop=[]:=(OP hst).2 (by omega);rw [e];show lpN _ _ 0 pos acc=_
   rw [lpN];simp;omega
 | F+1,pos,acc,hp,hF=>by
   by_cases he:stop<=pos
   ·have e:slN s pos stop=[]:=(OP hst).2 he;rw [e];show lpN _ _ (F+1) pos acc=_
    rw [lpN,if_pos he];simp;omega
   ·have hne:slN s pos stop≠[]:=fun e=>he ((OP hst).1 e)
    rw [Wn hne,lpN,if_neg he];have h1:=ih pos hp;unfold ElP at h1;rcases hpp:gH f (slN s pos stop) with c|⟨n,r⟩
    ·rw [hpp] at h1;simp only at h1 ⊢;have hc:=ug f _ c hpp;rw [if_pos (by rw [h1];exact hc),h1]
    ·rw [hpp] at h1;obtain ⟨p,h2,h3,h4,rfl⟩:=h1;simp only;rw [if_neg (by rw [h2];simp),h2];have h5:=Z5 hst ih F p (acc++[n]) h4 (by omega);simp only;rcases hm:lh (gH f) F (slN s p stop) with c|ks
     ·rw [hm] at h5;exact h5
     ·rw [hm] at h5;simp only at h5 ⊢;rw [h5];simp
theorem Zj:∀ (f:Nat) {s:List UInt8} {e pos:Nat},pos<=e->e<=s.length->ElP f s e pos
 | 0,s,e,pos,hp,he=>by simp [ElP,gH,elN]
 | f+1,s,e,pos,hp,he=>by
   unfold ElP;rw [gH,elN];by_cases h0:e<=pos
   ·rw [if_pos ((OP he).2 h0),if_pos h0]
   rw [if_neg (fun h=>h0 ((OP he).1 h)),if_neg h0];have g0:(slN s pos e).getD 0 0=s.getD pos 0:=ZH (by omega);simp only [g0];by_cases h31:(s.getD pos 0).toNat % 32=31
   ·rw [if_pos h31,if_pos h31]
   rw [if_neg h31,if_neg h31];have hl:=ZG (a:=pos) he;by_cases h1:e<=pos+1
   ·have hb:rP (slN s pos e)=.error 3:=by unfold rP;rw [if_pos (by omega)]
    rw [hb,if_pos h1]
   have g1:(slN s pos e).getD 1 0=s.getD (pos+1) 0:=ZH (by omega);obtain ⟨z,hz⟩:=aaR ((s.getD (pos+1) 0).toNat);rw [if_neg h1];simp only [hz];by_cases h8:z=128\/132<z
   ·have hb:rP (slN s pos e)=.error 8:=by
     unfold rP;rw [if_neg (by omega)];simp only [g1,hz];rw [if_neg (by omega),if_pos h8]
    rw [hb,if_pos h8]
   rw [if_neg h8];by_cases h3:128<z/\e - (pos+2)<z - 128
   ·have hb:rP (slN s pos e)=.error 3:=by
     unfold rP;rw [if_neg (by omega)];simp only [g1,hz];rw [if_neg (by omega),if_neg h8,if_pos (by omega)]
    rw [hb,if_pos h3]
   rw [if_neg h3];have hq:szN s pos=if 128<z then (kw ((s.drop (pos+2)).take (z - 128)),pos+2+(z - 128)) else (z,pos+2):=by simp only [szN,hz]
   have hd:((slN s pos e).drop 2).take (z - 128)=(s.drop (pos+2)).take (z - 128):=by
    by_cases h4:128<z
    ·rw [Tk,W2 (by omega),slN];congr 1;omega
    ·rw [show z - 128=0 by omega];simp
   by_cases h5:128<z/\1048576<(szN s pos).1
   ·have hb:rP (slN s pos e)=.error 5:=by
     unfold rP;rw [if_neg (by omega)];simp only [g1,hz,hd];rw [if_neg (by omega),if_neg h8,if_neg (by omega)];rw [hq,if_pos h5.1] at h5;rw [if_pos h5.2]
    rw [hb,if_pos h5]
   rw [if_neg h5];have hb:rP (slN s pos e)=.ok ((szN s pos).1,(szN s pos).2 - pos):=by
    unfold rP;rw [if_neg (by omega)];simp only [g1,hz,hd];rw [hq] at h5 ⊢;by_cases h4:128<z
    ·simp only [if_pos h4] at h5 ⊢;rw [if_neg (by omega),if_neg h8,if_neg (by omega),if_neg (by omega)]
     congr 2;omega
    ·simp only [if_neg h4];rw [if_pos (by omega)]
     congr 2;omega
   have hq2:pos+2<=(szN s pos).2/\(szN s pos).2<=e:=by
    rw [hq];split
    ·simp only;omega
    ·simp only;omega
   rw [hb];simp only;obtain ⟨⟨n,q⟩,hnq⟩:∃ x,szN s pos=x:=⟨_,rfl⟩;rw [hnq] at hq2 ⊢;simp only at hq2 ⊢;by_cases h6:e - q<n
   ·rw [if_pos (by omega),if_pos h6]
   rw [if_neg (by omega),if_neg h6];have hin:((slN s pos e).drop (q - pos)).take n=slN s q (q+n):=by
    rw [Tk,show pos+(q - pos)=q by omega,W2 (by omega)]
   have hrest:(slN s pos e).drop (q - pos+n)=slN s (q+n) e:=by rw [Tk];congr 1;omega
   have hin2:slN s q (q+n)=(s.drop q).take n:=by rw [slN];congr 1;omega
   rw [hin,hrest];by_cases h7:(s.getD pos 0).toNat / 32 % 2=0
   ·rw [if_pos h7,if_pos h7];exact ⟨q+n,by rw [hin2],by omega,by omega,rfl⟩
   rw [if_neg h7,if_neg h7];have hlp:=Z5 (f:=f) (s:=s) (stop:=q+n) (by omega) (fun p hp=>Zj f hp (by omega)) n q [] (by omega) (by omega);rcases hm:lh (gH f) n (slN s q (q+n)) with c|ks
   ·rw [hm] at hlp;exact hlp
   ·rw [hm] at hlp;simp only [ah3] at hlp ⊢;rw [hlp];exact ⟨q+n,rfl,by omega,by omega,rfl⟩
end Go.Proofs.YtobihfefmlgaoaaGreat.Av
set_option maxRecDepth 100000
namespace Go.Proofs.YtobihfefmlgaoaaGreat.Av
open Go
def E6:LSO:=[A7 2,Ac 3 0]
def E5:LSO:=[Aa 8 0,Aj 9 107 8,Aa 7 9,Aq 10 7,Ar 11 7,Bh 12 7,A7 4,Af 3 4 10,Aa 5 11,Aa 6 12]
def EZ:LSO:=[Aa 13 6,Au 14 13 0,Aa 15 14,.grp none 15 true
 [Ai 16 15 5,BV 17 15 16,BC 18 15 17 0]
 19 (tm 18)]
def EY:LSO:=[Ac 6 4]
def EX:LSO:=[Aa 20 6,A0 21 20 0]
def EW:LSO:=[Bz 22,Aa 23 6,Af 3 2 22,Aa 3 23]
def EV:LSO:=[As 24 3 4,Af 3 2 24,Ac 3 0]
def fg:aS:=⟨25,(.seq (.sreg E6 [])
 (.seq (.sreg E5 C8)
 (.seq (.seq (.sreg EZ Cr)
 (.cond (tm 19) (.sreg EY [])
 .skip))
 (.seq (.seq (.sreg EX Cp)
 (.cond (tm 21) (.seq (.sreg EW Cq)
 .ret)
 .skip))
 (.seq (.sreg EV Cp)
 .ret))))),[(.cell true 3 2),(.tmp 3)]⟩
attribute [push_cast] E6 E5 EZ EY EX EW EV
theorem mG:aT Tryz.prog (fun _ _=>1) 74=some fg.raw:=by kernel_rfl
def Fc:LSO:=[A7 2,Ao 3,Ac 4 0]
def Fb:LSO:=[Aa 7 0,o1 8 (.build [(.str []),(.int .i64 0),(.int .i64 0)] [(0,(1,(tm 7)))]),A8 9 8,Aa 5 9]
def Fa:LSO:=[Aa 10 5,Aa 11 0,A2 12 11,Bm 13 140 10 12 1,A7 6,Af 3 6 13]
def E9:LSO:=[Aa 14 5,Am 15 14,Ad 16 2 15,Ab 17 1 16,A0 18 17 0]
def E8:List (am×Kd) :=
 [od 19 (.build [(.int .i64 0),(.str []),(.sl [] 0 (some 0))] []) .pure,Az 20 5,AF 21 20 0 1,Aw 22 2 21,Ax 23 1 22 0 1,
 (⟨none,(.store 3 (tm 2) (tm 19)),none⟩,.eff),od 3 (.mv (.av (.str []))) .pure]
def xg:List am :=
 [⟨(some 4),(.mv (tm 23)),none⟩]
def E7:List (am×Kd) :=
 [BW 24 3 6 0 0,Az 25 0,Az 26 5,AF 27 26 0 1,Aw 28 1 27,Ax 29 1 28 0 1,Co 30 25 29 0 1,
 (⟨none,(.store 3 (tm 2) (tm 24)),none⟩,.eff)]
def xf:List am :=
 [⟨(some 3),(.mv (tm 30)),none⟩,⟨(some 4),(.mv (iv 0)),none⟩]
def jL:aS:=⟨31,(.seq (.sreg Fc [])
 (.seq (.sreg Fb Cr)
 (.seq (.sreg Fa Cs)
 (.seq (.seq (.sreg E9 Cs)
 (.cond (tm 18) (.seq (.dregM E8 xg Cx)
 .ret)
 .skip))
 (.seq (.dregM E7 xf C5)
 .ret))))),[(.cell true 3 2),(.tmp 3),(.tmp 4)]⟩
attribute [push_cast] Fc Fb Fa E9 E8 xg E7 xf
theorem yI:aT Tryz.prog (fun _ _=>1) 107=some jL.raw:=by kernel_rfl
def i7:LSO:=[A7 6]
def i6:LSO:=[Aa 14 2,A6 15 14 64]
def i5:LSO:=[Aa 16 0,AP 17 165 16 6,Af 3 6 17]
def iZ:LSO:=[Aa 18 0,Am 19 18,Ad 20 1 19,Ab 21 1 20,Aa 22 1,o1 23 (.bin .geq (tm 21) (tm 22))]
def iY:LSO:=[Aa 24 0,AP 25 165 24 3,Af 3 6 25]
def iX:LSO:=[Aa 26 0,Am 27 26,Ad 28 0 27,Ab 29 1 28,Aa 30 0,Am 31 30,Ad 32 1 31,Ab 33 1 32,AI 34 29 33,B7 35 34,Aa 7 35]
def iW:LSO:=[Aa 36 7,By 37 36 32,Au 38 37 31]
def iV:LSO:=[Aa 39 0,AP 40 165 39 7,Af 3 6 40]
def iU:LSO:=[Aa 41 0,Am 42 41,Ad 43 1 42,Ab 44 1 43,Ah 45 44 1,Aa 46 1,o1 47 (.bin .geq (tm 45) (tm 46))]
def iT:LSO:=[Aa 48 0,AP 49 165 48 3,Af 3 6 49]
def iM:LSO:=[Aa 50 0,Am 51 50,Ad 52 0 51,Ab 53 1 52,Aa 54 0,Am 55 54,Ad 56 1 55,Ab 57 1 56,Ah 58 57 1,AI 59 53 58,B7 60 59,Aa 8 60]
def iL:LSO:=[Aa 61 0,Am 62 61,Ad 63 1 62,Ab 64 1 63,Ah 65 64 2,Am 66 61,Ad 67 1 66,Af 1 67 65]
def iK:LSO:=[Aa 68 8,Au 69 68 128,Aa 70 69,.grp none 70 false
 [Ag 71 70 8,AD 72 70 71 132]
 73 (tm 72)]
def iJ:LSO:=[Aa 74 0,AP 75 165 74 8,Af 3 6 75]
def iI:LSO:=[Aa 76 8,A6 77 76 128]
def iH:LSO:=[Aa 78 8,AX 79 78 128,Aa 9 79]
def iG:LSO:=[Aa 80 1,Aa 81 0,Am 82 81,Ad 83 1 82,Ab 84 1 83,AT 85 80 84,Aa 86 9,Ak 87 85 86]
def iF:LSO:=[Aa 88 0,AP 89 165 88 3,Af 3 6 89]
def iE:LSO:=[Aa 91 0,Am 92 91,Ad 93 0 92,Ab 94 1 93,Aa 95 0,Am 96 95,Ad 97 1 96,Ab 98 1 97,Aa 99 9,B8 100 166 94 98 99,Aa 90 100,Aq 101 90,Ar 102 90,
 Aa 10 101,Aa 11 102]
def iD:LSO:=[Aa 103 10,o1 104 (.bin .gtr (tm 103) (.av (.int .u64 1048576)))]
def iC:LSO:=[Aa 105 0,AP 106 165 105 5,Af 3 6 106]
def iB:LSO:=[Aa 107 10,B7 108 107,Aa 8 108]
def iA:LSO:=[Aa 109 0,Am 110 109,Ad 111 1 110,Ab 112 1 111,Aa 113 9,AK 114 112 113,Am 115 109,Ad 116 1 115,Af 1 116 114]
def iz:LSO:=[Aa 117 1,Aa 118 0,Am 119 118,Ad 120 1 119,Ab 121 1 120,AT 122 117 121,Aa 123 8,Ak 124 122 123]
def iy:LSO:=[Aa 125 0,AP 126 165 125 3,Af 3 6 126]
def ix:LSO:=[Aa 127 0,Am 128 127,Ad 129 1 128,Ab 130 1 129,Aa 131 8,AK 132 130 131,Aa 12 132]
def iw:LSO:=[Aa 133 7,o1 134 (.build [(.int .i64 0),(.str []),(.sl [] 0 (some 0))] [(0,(1,(tm 133)))]),A7 13,Af 3 13 134]
def iu:LSO:=[Aa 135 7,B4 136 135 32,By 137 136 2,Au 138 137 0]
def ir:List (am×Kd) :=
 [Az 139 0,AF 140 139 0 0,Aw 141 0 140,Ax 142 1 141 0 0,Az 143 0,AF 144 143 0 0,Aw 145 1 144,Ax 146 1 145 0 0,Az 147 12]
def gM:List am :=
 [⟨(some 148),(.slS (tm 142) (some (tm 146)) (some (tm 147))),none⟩,⟨(some 149),(.faddr 1 (tm 13)),none⟩,⟨none,(.store 1 (tm 149) (tm 148)),none⟩]
def iq:LSO:=[Aa 150 0,Aa 151 12,Am 152 150,Ad 153 1 152,Af 1 153 151]
def io:LSO:=[As 154 3 13,Af 3 6 154]
def im:LSO:=[Aa 155 0,Am 156 155,Ad 157 1 156,Ab 158 1 157,Aa 159 12,Ak 160 158 159,Aa 161 160,.grp none 161 true
 [Ai 162 161 0,Bt 163 161 162,A5 164 161 2 163,A4 165 161 1 164,Bd 166 161 165 0]
 167 (tm 166)]
def il:List (am×Kd) :=
 [Aw 168 2 13,Ax 169 1 168 0 1,Az 170 0,Az 171 12,Az 172 2,od 173 (.bin .add (tm 172) (iv 1)) .pure,od 174 (.call 140 [(tm 170),(tm 171),(tm 173)]) .eff,
 od 175 (.bslice false 3 1 [(.int .i64 0),(.str []),(.sl [] 0 (some 0))] [(0,(3,(tm 174)))]) (.read 0 0)]
def gL:List am :=
 [⟨(some 176),(.app 1 3 48 [(.int .i64 0),(.str []),(.sl [] 0 (some 0))] (tm 169) (tm 175)),none⟩,⟨(some 177),(.faddr 2 (tm 13)),none⟩,⟨none,(.store 1 (tm 177) (tm 176)),none⟩]
def ik:LSO:=[As 178 3 13,Af 3 6 178]
def au:aS:=⟨179,(.seq (.sreg i7 [])
 (.seq (.seq (.sreg i6 Cp)
 (.cond (tm 15) (.seq (.sreg i5 C0)
 .ret)
 .skip))
 (.seq (.seq (.sreg iZ Ct)
 (.cond (tm 23) (.seq (.sreg iY C0)
 .ret)
 .skip))
 (.seq (.sdreg iX [.pure,(.read 0 0),.pure,(.read 0 0),.pure,(.read 0 0),.pure,(.read 0 0)] CD)
 (.seq (.seq (.sreg iW Cq)
 (.cond (tm 38) (.seq (.sreg iV C0)
 .ret)
 .skip))
 (.seq (.seq (.sreg iU Cu)
 (.cond (tm 47) (.seq (.sreg iT C0)
 .ret)
 .skip))
 (.seq (.sdreg iM [.pure,(.read 0 0),.pure,(.read 0 0),.pure,(.read 0 0),.pure,(.read 0 0),.pure] CH)
 (.seq (.sreg iL C7)
 (.seq (.seq (.sreg iK Cr)
 (.cond (tm 73) (.seq (.sreg iJ C0)
 .ret)
 .skip))
 (.seq (.seq (.sreg iI Cp)
 (.cond (tm 77) (.seq (.sreg iH Cq)
 (.seq (.seq (.sreg iG Cw)
 (.cond (tm 87) (.seq (.sreg iF C0)
 .ret)
 .skip))
 (.seq (.sdreg iE [.pure,(.read 0 0),.pure,(.read 0 0),.pure,(.read 0 0),.pure,(.read 0 0),.pure,(.read 0 0),.pure,.pure,.pure,.pure] [false,true,false,false,false,false,false,false,false,false,false,false,false,false,false])
 (.seq (.seq (.sreg iD Cp)
 (.cond (tm 104) (.seq (.sreg iC C0)
 .ret)
 .skip))
 (.seq (.sreg iB Cq)
 (.sreg iA CE))))))
 .skip))
 (.seq (.seq (.sreg iz Cw)
 (.cond (tm 124) (.seq (.sreg iy C0)
 .ret)
 .skip))
 (.seq (.sreg ix Cu)
 (.seq (.sreg iw Cq)
 (.seq (.seq (.sreg iu Cr)
 (.cond (tm 138) (.seq (.dregM ir gM CL)
 (.seq (.sreg iq C3)
 (.seq (.sreg io CA)
 .ret)))
 .skip))
 (.seq (.block 0 (.loop (.seq (.seq (.sreg im Cw)
 (.cond (tm 167) .skip
 (.exit 0)))
 (.block 1 (.dregM il gL CF)))))
 (.seq (.sreg ik CA)
 .ret)))))))))))))))),[(.cell true 3 6)]⟩
attribute [push_cast] i7 i6 i5 iZ iY iX iW iV iU iT iM iL iK iJ iI iH iG iF iE iD iC iB iA iz iy ix iw iu ir gM iq io im il gL ik
theorem aI:aT Tryz.prog (fun r i=>if r=32/\i=6 then 3 else 1) 140=some au.raw:=by kernel_rfl
def mo:LSO:=[A7 4]
def ml:LSO:=[Aa 5 0,Am 6 5,Ad 7 2 6,Ab 8 1 7,Au 9 8 0]
def mj:LSO:=[Aa 10 0,Aa 11 1,Am 12 10,Ad 13 2 12,Af 1 13 11]
def mh:LSO:=[Bz 14,Af 3 4 14]
def iP:aS:=⟨15,(.seq (.sreg mo [])
 (.seq (.seq (.sreg ml Cs)
 (.cond (tm 9) (.sreg mj C3)
 .skip))
 (.seq (.sreg mh CA)
 .ret))),[(.cell true 3 4)]⟩
attribute [push_cast] mo ml mj mh
theorem zl:aT Tryz.prog (fun _ _=>1) 165=some iP.raw:=by kernel_rfl
def MA:LSO:=[BE 6,An 7]
def Mz:LSO:=[Aa 10 2,AB 11 10 1,Aa 12 11,.grp none 12 false
 [Ag 13 12 2,AD 14 12 13 8]
 15 (tm 14),Aa 16 15,.grp none 16 false
 [Ag 17 16 1,B1 18 16 17 0]
 19 (tm 18),Aa 20 19,.grp none 20 false
 [Ag 21 20 0,Bo 22 20 21,Ag 23 20 2,Cg 24 20 22 23]
 25 (tm 24),Aa 26 25,.grp none 26 false
 [Ag 27 26 1,Ag 28 26 0,Bo 29 26 28,Ag 30 26 2,og 31 26 false (.bin .sub (tm 29) (tm 30)),og 32 26 false (.bin .gtr (tm 27) (tm 31))]
 33 (tm 32)]
def My:LSO:=[BE 6,An 7]
def Mx:LSO:=[BE 8]
def Mw:LSO:=[Ac 9 0]
def Mv:LSO:=[Aa 34 9,Aa 35 2,Ak 36 34 35]
def Mu:LSO:=[Aa 39 8,o1 40 (.bin .mul (.av (.int .u64 256)) (tm 39)),Aa 41 0,Aa 42 1,Aa 43 9,AK 44 42 43,AI 45 41 44,B6 46 45,AK 47 40 46,Aa 8 47]
def Mt:LSO:=[Aa 37 9,Ah 38 37 1,Aa 9 38]
def Mr:LSO:=[Aa 48 8,Aa 6 48,AC 7]
def KP:aS:=⟨49,(.seq (.sreg MA [])
 (.seq (.seq (.sreg Mz Cy)
 (.cond (tm 33) (.seq (.sreg My [])
 .ret)
 .skip))
 (.seq (.sreg Mx [])
 (.seq (.seq (.sreg Mw [])
 (.block 0 (.loop (.seq (.seq (.sreg Mv Cq)
 (.cond (tm 36) .skip
 (.exit 0)))
 (.seq (.block 1 (.sreg Mu Cy))
 (.sreg Mt Cq))))))
 (.seq (.sreg Mr Cv)
 .ret))))),[(.tmp 6),(.tmp 7)]⟩
attribute [push_cast] MA Mz My Mx Mw Mv Mu Mt Mr
theorem UD:aT Tryz.prog (fun _ _=>1) 166=some KP.raw:=by kernel_rfl
def HG:LSO:=[A8 1 0,An 2]
def HF:LSO:=[Ad 3 0 1,Ab 4 1 3,Au 5 4 4,Aa 2 5]
def zb:aS:=⟨6,(.seq (.sreg HG [])
 (.seq (.sreg HF Cr)
 .ret)),[(.tmp 2)]⟩
attribute [push_cast] HG HF
theorem Sx:aT Tryz.prog (fun _ _=>1) 76=some zb.raw:=by kernel_rfl
def HQ:LSO:=[Bj 2,Ac 3 0]
def HP:LSO:=[Aa 22 0,Aj 23 74 22,Aa 21 23,Aq 24 21,Ar 25 21,A7 4,Af 3 4 24,Aa 5 25]
def HO:LSO:=[Aa 26 5,A0 27 26 0]
def HN:LSO:=[AO 28,Aa 29 5,Af 4 2 28,Aa 3 29]
def HM:LSO:=[Ad 30 2 4,Ab 31 1 30,Aa 6 31]
def HL:LSO:=[Ad 32 0 4,Ab 33 1 32,A0 34 33 48,Aa 35 34,.grp none 35 false
 [Ag 36 35 6,AH 37 35 36,B1 38 35 37 2]
 39 (tm 38),Aa 40 39,.grp none 40 false
 [Ag 41 40 6,BY 42 40 3 41 0,A3 43 40 0 42,A1 44 40 1 43,Bv 45 40 44 2]
 46 (tm 45),Aa 47 46,.grp none 47 false
 [Ag 48 47 6,BY 49 47 3 48 0,A3 50 47 1 49,A1 51 47 1 50,Bo 52 47 51,Bv 53 47 52 1]
 54 (tm 53)]
def HK:LSO:=[AO 55,Af 4 2 55,Ac 3 4]
def HJ:LSO:=[Aa 56 6,B0 57 3 56 0,Ad 58 1 57,Ab 59 1 58,B3 60 59 0,B7 61 60,
 o1 62 (.build [(.int .i64 0),(.sl [] 0 (some 0)),(.sl [] 0 (some 0)),(.sl [] 0 (some 0))] [(0,(1,(tm 61)))]),Bj 7,Af 4 7 62]
def HI:LSO:=[Ac 8 1,Ac 9 1]
def HH:LSO:=[Ad 63 0 7,Ab 64 1 63,Au 65 64 4]
def Dz:LSO:=[Ac 8 2]
def Dy:LSO:=[Ad 66 0 7,Ab 67 1 66,Au 68 67 2]
def Dx:LSO:=[Ac 9 0]
def Dw:LSO:=[Ad 69 0 7,Ab 70 1 69,AB 71 70 1,Aa 72 71,.grp none 72 false
 [A3 73 72 0 7,A1 74 72 1 73,AD 75 72 74 4]
 76 (tm 75),Aa 77 76,.grp none 77 false
 [Ag 78 77 6,AH 79 77 78,Ag 80 77 8,og 81 77 false (.bin .add (iv 1) (tm 80)),Ag 82 77 9,og 83 77 false (.bin .add (tm 81) (tm 82)),BF 84 77 79 83]
 85 (tm 84)]
def Dv:LSO:=[AO 86,Af 4 2 86,Ac 3 4]
def Du:LSO:=[Ac 10 1]
def Dt:LSO:=[Aa 87 10,Aa 88 8,o1 89 (.bin .leq (tm 87) (tm 88))]
def Ds:LSO:=[Aa 93 6,Aa 94 10,Al 95 3 93 94,Ad 96 1 95,Ab 97 1 96,Aj 98 75 97,Aa 92 98,Aq 99 92,Ar 100 92,Aa 11 99,Aa 12 100]
def Dr:LSO:=[Aa 101 12,A0 102 101 0,Aa 103 102,.grp none 103 false
 [Ag 104 103 6,Ag 105 103 10,BT 106 103 3 104 105,og 107 103 false (.load true 3 (tm 106)),Bx 108 103 76 107,AY 109 103 108]
 110 (tm 109)]
def Dq:LSO:=[AO 111,Af 4 2 111,Ac 3 4]
def Dp:LSO:=[Aa 112 10,Au 113 112 1]
def Do:LSO:=[Aa 114 11,Ad 115 1 7,Af 1 115 114]
def Dn:LSO:=[Aa 116 11,Ad 117 2 7,Af 1 117 116]
def Dm:LSO:=[Aa 90 10,Ah 91 90 1,Aa 10 91]
def Dl:LSO:=[Aa 118 9,Au 119 118 1]
def Dk:LSO:=[Aa 120 6,Aa 121 6,Ae 122 121,AX 123 122 1,Al 124 3 120 123,As 125 3 124,A7 13,Af 3 13 125]
def Dj:LSO:=[Ad 126 0 13,Ab 127 1 126,A0 128 127 48]
def Di:LSO:=[AO 129,Af 4 2 129,Ac 3 4]
def Dh:LSO:=[Ad 130 2 13,Ab 131 1 130,Ae 132 131,Ac 133 0]
def Dg:LSO:=[Ak 134 133 132]
def Df:LSO:=[Al 135 3 131 133,As 136 3 135,A7 15,Af 3 15 136]
def De:LSO:=[Ad 137 0 15,Ab 138 1 137,A0 139 138 48,Aa 140 139,.grp none 140 false
 [A3 141 140 2 15,A1 142 140 1 141,AH 143 140 142,Bv 144 140 143 2]
 145 (tm 144),Aa 146 145,.grp none 146 false
 [A3 147 146 2 15,A1 148 146 1 147,BY 149 146 3 148 0,og 150 146 false (.load true 3 (tm 149)),Bx 151 146 76 150,AY 152 146 151]
 153 (tm 152),Aa 154 153,.grp none 154 false
 [A3 155 154 2 15,A1 156 154 1 155,BY 157 154 3 156 1,A3 158 154 0 157,A1 159 154 1 158,Bv 160 154 159 49]
 161 (tm 160)]
def Dd:LSO:=[AO 162,Af 4 2 162,Ac 3 4]
def Dc:LSO:=[Ad 163 2 15,Ab 164 1 163,B0 165 3 164 0,Ad 166 1 165,Ab 167 1 166,o1 168 (.build [(.str []),(.sl [] 0 (some 0))] [(0,(1,(tm 167)))]),Br 16,Af 2 16 168]
def Db:LSO:=[Ad 169 2 15,Ab 170 1 169,B0 171 3 170 1,Ad 172 2 171,Ab 173 1 172,Ae 174 173,Ac 175 0]
def Da:LSO:=[Ak 176 175 174]
def CZ:LSO:=[Al 177 3 173 175,As 178 3 177,A7 18,Af 3 18 178]
def At:LSO:=[As 179 3 18,Aj 180 76 179,AA 181 180]
def z8:LSO:=[AO 182,Af 4 2 182,Ac 3 4]
def zZ:LSO:=[Ad 183 1 16,Ab 184 1 183,Ad 185 1 18,Ab 186 1 185,Bb 187 186,B5 188 184 187,Ad 189 1 16,Af 1 189 188]
def zY:LSO:=[Ah 190 175 1,Aa 175 190]
def zX:LSO:=[Ad 191 3 7,Ab 192 1 191,As 193 2 16,o1 194 (.bslice false 2 1 [(.str []),(.sl [] 0 (some 0))] [(0,(2,(tm 193)))]),
 o1 195 (.app 1 2 40 [(.str []),(.sl [] 0 (some 0))] (tm 192) (tm 194)),Ad 196 3 7,Af 1 196 195]
def zW:LSO:=[Ah 197 133 1,Aa 133 197]
def zV:LSO:=[As 199 4 7,Aj 200 16 199,Aa 198 200,Aq 201 198,Ar 202 198,Aa 19 201,Aa 20 202]
def zU:LSO:=[Aa 203 20,A0 204 203 0,Aa 205 204,.grp none 205 false
 [Ag 206 205 19,Ag 207 205 0,BF 208 205 206 207]
 209 (tm 208)]
def zT:LSO:=[AO 210,Af 4 2 210,Ac 3 4]
def zS:LSO:=[As 211 4 7,Af 4 2 211,Ac 3 0]
def ba:aS:=⟨212,(.seq (.sreg HQ [])
 (.seq (.sreg HP Cx)
 (.seq (.seq (.sreg HO Cp)
 (.cond (tm 27) (.seq (.sreg HN Cq)
 .ret)
 .skip))
 (.seq (.sreg HM Cq)
 (.seq (.seq (.sreg HL C1)
 (.cond (tm 54) (.seq (.sreg HK Cp)
 .ret)
 .skip))
 (.seq (.sreg HJ Cw)
 (.seq (.sreg HI [])
 (.seq (.seq (.sreg HH Cq)
 (.cond (tm 65) (.sreg Dz [])
 .skip))
 (.seq (.seq (.sreg Dy Cq)
 (.cond (tm 68) (.sreg Dx [])
 .skip))
 (.seq (.seq (.sreg Dw Cu)
 (.cond (tm 85) (.seq (.sreg Dv Cp)
 .ret)
 .skip))
 (.seq (.seq (.sreg Du [])
 (.block 0 (.loop (.seq (.seq (.sreg Dt Cq)
 (.cond (tm 89) .skip
 (.exit 0)))
 (.seq (.block 1 (.seq (.sreg Ds CX)
 (.seq (.seq (.sreg Dr Cr)
 (.cond (tm 110) (.seq (.sreg Dq Cp)
 .ret)
 .skip))
 (.seq (.sreg Dp Cp)
 (.cond (tm 113) (.sreg Do C0)
 (.sreg Dn C0))))))
 (.sreg Dm Cq))))))
 (.seq (.seq (.sreg Dl Cp)
 (.cond (tm 119) (.seq (.sreg Dk Cu)
 (.seq (.seq (.sreg Dj Cq)
 (.cond (tm 128) (.seq (.sreg Di Cp)
 .ret)
 .skip))
 (.seq (.sreg Dh C4)
 (.block 2 (.loop (.seq (.sreg Dg [])
 (.seq (.cond (tm 134) .skip
 (.exit 2))
 (.seq (.block 3 (.seq (.sreg Df Cq)
 (.seq (.seq (.sreg De C1)
 (.cond (tm 161) (.seq (.sreg Dd Cp)
 .ret)
 .skip))
 (.seq (.sreg Dc Cu)
 (.seq (.seq (.sreg Db CI)
 (.block 4 (.loop (.seq (.sreg Da [])
 (.seq (.cond (tm 176) .skip
 (.exit 4))
 (.seq (.block 5 (.seq (.sreg CZ Cq)
 (.seq (.seq (.sreg At Cq)
 (.cond (tm 181) (.seq (.sreg z8 Cp)
 .ret)
 .skip))
 (.sreg zZ C7))))
 (.sreg zY Cp)))))))
 (.sreg zX CJ))))))
 (.sreg zW Cp)))))))))
 .skip))
 (.seq (.sreg zV Cx)
 (.seq (.seq (.sreg zU Cr)
 (.cond (tm 209) (.seq (.sreg zT Cp)
 .ret)
 .skip))
 (.seq (.sreg zS Cp)
 .ret))))))))))))))),[(.cell true 4 2),(.tmp 3)]⟩
attribute [push_cast] HQ HP HO HN HM HL HK HJ HI HH Dz Dy Dx Dw Dv Du Dt Ds Dr Dq Dp Do Dn Dm Dl Dk Dj Di Dh Dg Df De Dd Dc Db Da CZ At z8 zZ zY zX zW zV zU zT zS
theorem cB:aT Tryz.prog (fun _ _=>1) 39=some ba.raw:=by kernel_rfl
attribute [push_cast] fg jL au iP KP zb ba
variable {L:List Blk} {K:afC}
set_option maxHeartbeats 8000000
set_option maxRecDepth 100000
theorem YA {s:List UInt8} {a z:Nat} (hs:s.length<=1100000) (h1:1<=z) (h8:z<=8) (ha:a+z<=s.length) (h:K (.tup [.int .u64 (kw ((s.drop a).take z):Nat),.bool true]) L):afB 166 [.str s,.int .i64 (a:Int),.int .i64 (z:Int)] L K:=by
 replace h:=hid h;have z1:¬ (z:Int)<1:=by omega
 have z2:¬ (8:Int)<(z:Int):=by omega
 have z3:¬ (a:Int)<0:=by omega
 have z5:¬ (s.length:Int)<(z:Int):=by omega
 have w1:IntKind.i64.wrap ((s.length:Int) - (z:Int))=(s.length:Int) - (z:Int):=ac (by omega) (by omega);have z4:¬ (s.length:Int) - (z:Int)<(a:Int):=by omega
 obtain ⟨t,ht⟩:=aaR ((s.drop a).take z);have htl:t.length=z:=by rw [<- ht];simp;omega
 have htg:∀ i,i<z->t.getD i 0=s.getD (a+i) 0:=fun i hi=>by
  rw [<- ht];simp only [ahE];rw [aib hi,aia]
 rw [ht] at h;clear ht;replace htg:=hid htg;refine acg UD ?_;refine ah (fun m T' L'=>∃ (i x:Nat),m=z - i/\i<=z/\Hid (x=kw (t.take i))/\T'=[(9,.int .i64 (i:Int)),(8,.int .u64 (x:Int)),(0,.str s),(1,.int .i64 (a:Int)),(2,.int .i64 (z:Int))]/\L=L') (CutL (b:=ahn _)) ⟨0,0,rfl,ahp _,hid rfl,rfl,rfl⟩ ?_;rintro _ _ _ ⟨i,x,rfl,hi,hx,rfl,rfl⟩;by_cases hlt:i<z
 ·have g1:(i:Int)<(z:Int):=by omega
  have w3:=ace i (by omega);have w6:IntKind.i64.wrap ((a:Int)+(i:Int))=(a:Int)+(i:Int):=ac (by omega) (by omega);obtain ⟨c,hc⟩:=aaR (t.getD i 0);have hlt2:i<t.length:=by omega
  have e0:((a:Int)+(i:Int)).toNat=a+i:=by omega
  have e3:s.getD (a+i) 0=c:=by rw [<- htg.out i hlt,hc]
  have g2:(0:Int)<=(a:Int)+(i:Int):=by omega
  have g3:(a:Int)+(i:Int)<(s.length:Int):=by omega
  have g4:a+i<s.length:=by omega
  have e4:t.take (i+1)=t.take i++[c]:=by rw [ahK hlt2,<- hc];simp [hlt2]
  have e5:kw (t.take (i+1))=256 * x+c.toNat:=by rw [e4,Uc,hx.out]
  have hxb:x<72057594037927936:=by
   have h2:=Wx (t.take i);rw [<- hx.out] at h2;have h3:(t.take i).length<=7:=by simp;omega
   exact aiF h2 (ahV (Nat.pow_le_pow_right (by omega) h3) (by decide))
  have hc256:=c.toNat_lt;have w4:IntKind.u64.wrap (256 * (x:Int))=256 * (x:Int):=mq (by omega) (by omega);have w5:IntKind.u64.wrap (c.toNat:Int)=(c.toNat:Int):=mq (by omega) (by omega);have w7:IntKind.u64.wrap (256 * (x:Int)+(c.toNat:Int))=((256 * x+c.toNat:Nat):Int):=by rw [mq (by omega) (by omega)];omega
  clear e4 hc hxb;replace e5:=hid e5;refine wk ?_;exact aq _ _ _ (by omega) (CutL (b:=ahn _)) ⟨i+1,256 * x+c.toNat,rfl,hlt,hid e5.out.symm,rfl,rfl⟩
 ·have hke:i=z:=by omega
  subst hke;have g1:¬ (i:Int)<(i:Int):=by omega
  have h':=h.out;rw [show kw t=x by rw [hx.out,<- htl,ahA]] at h';replace h':=hid h';refine wk ?_;exact af h'.out
def rdB (s:List UInt8) (p b:Int):Blk:=.cells [.str s,.int .i64 p,.int .i64 b]
theorem acH {L:List Blk} {r:Nat} {s:List UInt8} {p b:Int} {q:Nat->Bool} (h:∀ k∈L,k.refs q=true):∀ k∈L.set r (rdB s p b),k.refs q=true:=fun k hk=>by
 rcases List.mem_or_eq_of_mem_set hk with h1|rfl
 ·exact h k h1
 ·rfl
theorem adm {L:List Blk} {r:Nat} {s:List UInt8} {p e:Int} (hr:L[r]?=some (rdB s p 0)) {K:afC} (h:K (.agg [.int .i64 0,.str [],.sl [] 0 none]) (L.set r (rdB s p e))):afB 165 [.ptr r 0,.int .i64 e] L K:=by
 replace h:=hid h;have hrl:r<L.length:=(ahm.1 hr).1;have g1:∀ X:List Blk,(L++X)[r]?=some (.cells [.str s,.int .i64 p,.int .i64 0]):=fun X=>by rw [ahq hrl];exact hr
 have g2:∀ (X:List Blk) (b:Blk),(L++X).set r b=L.set r b++X:=fun X b=>aiK _ _ hrl
 have g3:∀ (X:List Blk) (b x:Blk),(L.set r b++x::X)[L.length]?=some x:=fun X b x=>by rw [ahu (by simp)];simp
 have g4:∀ (X:List Blk) (b x y:Blk),(L.set r b++x::X).set L.length y=L.set r b++y::X:=fun X b x y=>by rw [ahP _ _ (by simp)];simp
 clear hr;refine acg zl ?_;refine ay ?_;exact QO (by simp) (fun hk k hm=>acH (s:=s) (p:=p) (b:=e) hk k hm) rfl h.out
theorem agq {P:Program} {f:FuncId} {xs:List Opd} {T:Tm} {L:List Blk} {args:List AV} {k:AV->List Blk->Prop} (v:AV) (L2:List Blk) (h:ae P f args L fun av L'=>av=v/\L'=L2) (hx:gP T xs=some args) (hk:k v L2) :
 ∃ v L2,EQv P ⟨none,.call f xs,none⟩ T L v L2/\k v L2:=⟨v,L2,by simp only [EQv,hx];exact h,hk⟩
theorem Kx:ndA bd=[.int .i64 0,.str [],.sl [] 0 none]:=by rw [bG];rfl
structure Rdr (R:Int->Int->List Blk) (N r:Nat) (s:List UInt8):Prop where
 len:∀ p b,(R p b).length=N
 lt:r<N
 get0:∀ p b,(R p b)[r]?=some (.cells [.str s,.int .i64 p,.int .i64 b])
 get:∀ p b X,(R p b++X)[r]?=some (.cells [.str s,.int .i64 p,.int .i64 b])
 set0:∀ p b p' b',(R p b).set r (.cells [.str s,.int .i64 p',.int .i64 b'])=R p' b'
 set:∀ p b p' b' X,(R p b++X).set r (.cells [.str s,.int .i64 p',.int .i64 b'])=R p' b'++X
 at0:∀ p b x X,(R p b++x::X)[N]?=some x
 atk:∀ p b X k,(R p b++X)[N+k]?=X[k]?
 st0:∀ p b x y X,(R p b++x::X).set N y=R p b++y::X
 stk:∀ p b X k y,(R p b++X).set (N+k) y=R p b++X.set k y
 keep:∀ {p b p' b'} {q:Nat->Bool},(∀ k∈R p b,k.refs q=true)->∀ k∈R p' b',k.refs q=true
theorem Rdr.mk' {L:List Blk} {r:Nat} {s:List UInt8} {p:Int} (h:L[r]?=some (rdB s p 0)):∃ R N,Rdr R N r s/\L=R p 0/\∀ p' b',L.set r (rdB s p' b')=R p' b':=by
 have hl:r<L.length:=(ahm.1 h).1;refine ⟨fun p b=>L.set r (rdB s p b),L.length,⟨fun p b=>by simp,hl,fun p b=>by rw [aiP hl];rfl,fun p b X=>?_,fun p b p' b'=>?_,fun p b p' b' X=>?_,fun p b x X=>?_,fun p b X k=>?_,fun p b x y X=>?_,fun p b X k y=>?_,fun {p b p' b' q} hk k hm=>?_⟩,?_,fun p' b'=>rfl⟩
 ·rw [ahq (by simpa using hl),aiP hl];rfl
 ·simp only [List.set_set];rfl
 ·rw [aiK _ _ (by simpa using hl),List.set_set];rfl
 ·rw [ahu (by simp)];simp
 ·rw [ahu (by simp)];simp
 ·rw [ahP _ _ (by simp)];simp
 ·rw [ahP _ _ (by simp)];simp
 ·rcases List.mem_or_eq_of_mem_set hm with h1|rfl
  ·by_cases hkr:∃ i,i≠r/\L[i]?=some k
   ·obtain ⟨i,hi,h2⟩:=hkr;exact hk k (aiz (i:=i) (by rw [ahL (Ne.symm hi)];exact h2))
   ·obtain ⟨i,h2⟩:=akv h1;have:i=r:=by
     apply Classical.byContradiction;intro e;exact hkr ⟨i,e,h2⟩
    subst this;rw [h] at h2;cases h2;rfl
  ·rfl
 ·apply ajs;intro i;by_cases hi:i=r
  ·subst hi;rw [aiP hl,h]
  ·rw [ahL (Ne.symm hi)]
theorem agM {f:Nat} {s:List UInt8} {e pos p:Nat} {n:Nd} (hp:pos<=e) (he:e<=s.length) (h:elN f s e pos=(n,p,0)):pos<p/\p<=e:=by
 have h1:=Zj f hp he;unfold ElP at h1;rcases hpp:gH f (slN s pos e) with c|⟨n',r⟩
 ·rw [hpp] at h1;simp only [h] at h1;exact absurd h1.symm (ug f _ c hpp)
 ·rw [hpp] at h1;obtain ⟨p',h2,h3,h4,_⟩:=h1;rw [h] at h2;cases h2;exact ⟨h3,h4⟩
theorem agN:∀ (f:Nat) {s:List UInt8} {e pos:Nat} {dep:Int} {r:Nat} {L:List Blk} (hs:s.length<=1100000) (hd:dep+f=65) (h1:1<=dep) (he:e<=s.length) (hp:pos<=e) (hr:L[r]?=some (rdB s (pos:Int) 0)) {K:afC}
  (h:K (.agg (ndA (elN f s e pos).1)) (L.set r (rdB s ((elN f s e pos).2.1:Nat) (elN f s e pos).2.2))),afB 140 [.ptr r 0,.int .i64 (e:Int),.int .i64 dep] L K
 | 0,s,e,pos,dep,r,L,hs,hd,h1,he,hp,hr,K,h=>by
   have e1:dep=65:=by omega
   subst e1;obtain ⟨R,N,hR,rfl,hRL⟩:=Rdr.mk' hr;rw [hRL,elN] at h;simp only [Kx] at h;replace h:=hid h;have kk1:Hid (∀ {p:Int} {X:List Blk} {K:afC},K (.agg [.int .i64 0,.str [],.sl [] 0 none]) (R p 6++X)->afB 165 [.ptr r 0,.int .i64 6] (R p 0++X) K):=@hid _ (by
    intro p X K q;exact adm (p:=p) (e:=6) (hR.get p 0 X) (by rw [rdB,hR.set];exact q))
   have r1:=hR.len;have r2:=hR.at0;have r3:=hR.st0;clear hr hRL;refine acg aI ?_;exact QO (by simp [r1]) hR.keep rfl h.out
 | f+1,s,e,pos,dep,r,L,hs,hd,h1,he,hp,hr,K,h=>by
   have ih:∀ {pos:Nat} {e:Nat} {r:Nat} {L:List Blk} (he:e<=s.length) (hp:pos<=e) (hr:L[r]?=some (rdB s (pos:Int) 0)) {K:afC}
     (h:K (.agg (ndA (elN f s e pos).1)) (L.set r (rdB s ((elN f s e pos).2.1:Nat) (elN f s e pos).2.2))),afB 140 [.ptr r 0,.int .i64 (e:Int),.int .i64 (dep+1)] L K:=by
    intro pos e r L he hp hr K h;exact agN f hs (by omega) (by omega) he hp hr h
   replace ih:=@hid _ @ih;obtain ⟨R,N,hR,rfl,hRL⟩:=Rdr.mk' hr;rw [hRL] at h;clear hr hRL;have kf:∀ e:Int,∃ _:Hid (∀ {p:Int} {X:List Blk} {K:afC},K (.agg [.int .i64 0,.str [],.sl [] 0 none]) (R p e++X)->afB 165 [.ptr r 0,.int .i64 e] (R p 0++X) K),True:=fun e=>⟨@hid _ (by
    intro p X K q;exact adm (p:=p) (e:=e) (hR.get p 0 X) (by rw [rdB,hR.set];exact q)),trivial⟩
   replace kf:=hid kf;have fin:∀ {v:AV} {p b:Int} {X:List Blk},v.refs (fun i=>decide (i<(R (pos:Int) 0).length))=true->K v (R p b)->Fin (R (pos:Int) 0) v (R p b++X) K:=fun {v p b X} hv hk=>QO (by rw [hR.len,hR.len]) hR.keep hv hk
   replace fin:=@hid _ @fin;have r1:=hR.len;have r2:=hR.at0;have r3:=hR.st0;have r4:=hR.atk;have r5:=hR.stk;have r6:=hR.get;have r7:=hR.set;have hN:=hid hR;clear hR;have g1:¬ (64:Int)<dep:=by omega
   have w0:IntKind.i64.wrap (dep+1)=dep+1:=ac (by omega) (by omega);rw [elN] at h;by_cases h0:e<=pos
   ·rw [if_pos h0] at h;simp only [Kx] at h;replace h:=hid h;have g2:(e:Int)<=(pos:Int):=by omega
    obtain ⟨kk1,_⟩:=kf.out 3;clear h0;refine acg aI ?_;exact fin.out rfl h.out
   rw [if_neg h0] at h;have g2:¬ (e:Int)<=(pos:Int):=by omega
   have g3:(pos:Int)<(s.length:Int):=by omega
   obtain ⟨c0,hc0⟩:=aaR (s.getD pos 0);obtain ⟨t,ht⟩:=aaR (c0.toNat);have ht256:t<256:=by rw [<- ht];exact c0.toNat_lt
   simp only [hc0,ht] at h;have wt:IntKind.i64.wrap (t:Int)=(t:Int):=ac (by omega) (by omega);obtain ⟨y,hy⟩:∃ y:Int,((t % 32:Nat):Int)=y:=⟨_,rfl⟩;have m1:(t:Int).tmod 32=y:=by rw [<- hy,ajN (by omega)];rfl
   obtain ⟨y2,hy2⟩:∃ y:Int,((t / 32:Nat):Int)=y:=⟨_,rfl⟩;obtain ⟨y3,hy3⟩:∃ y:Int,((t / 32 % 2:Nat):Int)=y:=⟨_,rfl⟩;have m2:IntKind.i64.wrap ((t:Int).tdiv 32)=y2:=by
    rw [aka (by omega),<- hy2];exact ac (by omega) (by omega)
   have m3:y2.tmod 2=y3:=by rw [<- hy3,<- hy2,ajN (by omega)];rfl
   have hpl:pos<s.length:=by omega
   by_cases h31:t % 32=31
   ·rw [if_pos h31] at h;simp only [Kx] at h;replace h:=hid h;have hy':y=31:=by omega
    obtain ⟨kk1,_⟩:=kf.out 7;clear h31 hy hy2 hy3 h0;subst hy';refine acg aI ?_;exact fin.out rfl h.out
   rw [if_neg h31] at h;have g4:¬ y=31:=by omega
   clear h31;have w1:=ace pos (by omega);by_cases hp1:e<=pos+1
   ·rw [if_pos hp1] at h;simp only [Kx] at h;replace h:=hid h;have g5:(e:Int)<=(pos:Int)+1:=by omega
    obtain ⟨kk1,_⟩:=kf.out 3;clear hp1 hy hy2 hy3 h0;refine acg aI ?_;exact fin.out rfl h.out
   rw [if_neg hp1] at h;have g5:¬ (e:Int)<=(pos:Int)+1:=by omega
   have g6:(0:Int)<=(pos:Int)+1:=by omega
   have g7:(pos:Int)+1<(s.length:Int):=by omega
   have g8:((pos:Int)+1).toNat=pos+1:=by omega
   have g9:pos+1<s.length:=by omega
   obtain ⟨c1,hc1⟩:=aaR (s.getD (pos+1) 0);obtain ⟨z,hz⟩:=aaR (c1.toNat);have hz256:z<256:=by rw [<- hz];exact c1.toNat_lt
   simp only [hc1,hz] at h;have wz:IntKind.i64.wrap (z:Int)=(z:Int):=ac (by omega) (by omega);obtain ⟨p2,hp2⟩:=aaR (pos+2);have w2:IntKind.i64.wrap ((pos:Int)+2)=(p2:Int):=by rw [ac (by omega) (by omega)];omega
   by_cases h8:z=128\/132<z
   ·rw [if_pos h8,hp2] at h;simp only [Kx] at h;replace h:=hid h;obtain ⟨kk1,_⟩:=kf.out 8;by_cases z1:z=128
    ·have z2:(z:Int)=128:=by omega
     clear hy hy2 hy3 h0 h8 z1;refine acg aI ?_;exact fin.out rfl h.out
    ·have z2:¬ (z:Int)=128:=by omega
     have z3:(132:Int)<(z:Int):=by omega
     clear hy hy2 hy3 h0 h8 z1;refine acg aI ?_;exact fin.out rfl h.out
   rw [if_neg h8] at h;have z2:¬ (z:Int)=128:=by omega
   have z3:¬ (132:Int)<(z:Int):=by omega
   rw [hp2] at h;have hq:szN s pos=if 128<z then (kw ((s.drop p2).take (z - 128)),p2+(z - 128)) else (z,p2):=by simp only [szN,hc1,hz,hp2]
   have w3:IntKind.i64.wrap ((e:Int) - (p2:Int))=(e:Int) - (p2:Int):=ac (by omega) (by omega);obtain ⟨m,hm⟩:=aaR (z - 128);rw [hm] at h hq;have hpe:p2<=e:=by omega
   by_cases hA3:128<z/\e - p2<m
   ·rw [if_pos hA3] at h;simp only [Kx] at h;replace h:=hid h;obtain ⟨kk1,_⟩:=kf.out 3;have z4:(128:Int)<(z:Int):=by omega
    have wm:IntKind.i64.wrap ((z:Int) - 128)=(m:Int):=by rw [ac (by omega) (by omega)];omega
    have z5:(e:Int) - (p2:Int)<(m:Int):=by omega
    clear hy hy2 hy3 h0 h8 hA3 hm hq;refine acg aI ?_;exact fin.out rfl h.out
   rw [if_neg hA3] at h;by_cases hA5:128<z/\1048576<(szN s pos).1
   ·rw [if_pos hA5] at h;rw [hq,if_pos hA5.1] at hA5;simp only [Kx] at h;replace h:=hid h;obtain ⟨kk1,_⟩:=kf.out 5;have z4:(128:Int)<(z:Int):=by omega
    have wm:IntKind.i64.wrap ((z:Int) - 128)=(m:Int):=by rw [ac (by omega) (by omega)];omega
    have z5:¬ (e:Int) - (p2:Int)<(m:Int):=by omega
    obtain ⟨G,hG⟩:=aaR (kw ((s.drop p2).take m));have kk2:Hid (Ctr Tryz.prog 166 [.str s,.int .i64 (p2:Int),.int .i64 (m:Int)] (.tup [.int .u64 (G:Int),.bool true])):=@hid _ (by
     intro L K q;exact YA hs (by omega) (by omega) (by omega) (by rw [hG];exact q))
    have z6:(1048576:Int)<(G:Int):=by have:=hA5.2;omega
    clear hy hy2 hy3 h0 h8 hA3 hm hq hA5 hG;refine acg aI ?_;exact fin.out rfl h.out
   rw [if_neg hA5] at h;obtain ⟨⟨G,p3⟩,hGp⟩:∃ x,szN s pos=x:=⟨_,rfl⟩;rw [hGp] at h hA5;simp only at h hA5;have hb3:p2<=p3/\p3<=e/\G<=1048576:=by
    rw [hq] at hGp;split at hGp<;>cases hGp<;>omega
   have w4:IntKind.i64.wrap ((e:Int) - (p3:Int))=(e:Int) - (p3:Int):=ac (by omega) (by omega);have wG:IntKind.i64.wrap (G:Int)=(G:Int):=ac (by omega) (by omega);by_cases h6:e - p3<G
   ·rw [if_pos h6] at h;simp only [Kx] at h;replace h:=hid h;obtain ⟨kk1,_⟩:=kf.out 3;have z7:(e:Int) - (p3:Int)<(G:Int):=by omega
    by_cases h128:128<z
    ·have z4:(128:Int)<(z:Int):=by omega
     have wm:IntKind.i64.wrap ((z:Int) - 128)=(m:Int):=by rw [ac (by omega) (by omega)];omega
     have z5:¬ (e:Int) - (p2:Int)<(m:Int):=by omega
     rw [if_pos h128,hGp] at hq;simp only [ahx] at hq;have wp:IntKind.i64.wrap ((p2:Int)+(m:Int))=(p3:Int):=by rw [ac (by omega) (by omega)];omega
     have kk2:Hid (Ctr Tryz.prog 166 [.str s,.int .i64 (p2:Int),.int .i64 (m:Int)] (.tup [.int .u64 (G:Int),.bool true])):=@hid _ (by
      intro L K q;exact YA hs (by omega) (by omega) (by omega) (by rw [<- hq.1];exact q))
     have z6:¬ (1048576:Int)<(G:Int):=by omega
     clear hy hy2 hy3 h0 h8 hA3 hm hq hA5 hGp hb3 h6;refine acg aI ?_;exact fin.out rfl h.out
    ·have z4:¬ (128:Int)<(z:Int):=by omega
     rw [if_neg h128,hGp] at hq;cases hq;clear hy hy2 hy3 h0 h8 hA3 hm hA5 hGp hb3 h6;refine acg aI ?_;exact fin.out rfl h.out
   rw [if_neg h6] at h;have z7:¬ (e:Int) - (p3:Int)<(G:Int):=by omega
   obtain ⟨q,hqq⟩:=aaR (p3+G);rw [hqq] at h;have wq:IntKind.i64.wrap ((p3:Int)+(G:Int))=(q:Int):=by rw [ac (by omega) (by omega)];omega
   have q1:(p3:Int)<=(q:Int):=by omega
   have q2:(q:Int)<=(s.length:Int):=by omega
   have q3:q - p3=G:=by omega
   have q4:(0:Int)<=(p3:Int):=by omega
   have hql:q<=s.length:=by omega
   have hpq:p3<=q:=by omega
   have hGb:G<=1048576:=hb3.2.2;have hway:(128:Int)<(z:Int)/\IntKind.i64.wrap ((z:Int) - 128)=(m:Int)/\¬ (e:Int) - (p2:Int)<(m:Int)/\IntKind.i64.wrap ((p2:Int)+(m:Int))=(p3:Int)/\¬ (1048576:Int)<(G:Int)/\Hid (Ctr Tryz.prog 166 [.str s,.int .i64 (p2:Int),.int .i64 (m:Int)] (.tup [.int .u64 (G:Int),.bool true]))\/¬ (128:Int)<(z:Int)/\G=z/\p3=p2:=by
    by_cases h128:128<z
    ·left;rw [if_pos h128,hGp] at hq;simp only [ahx] at hq;refine ⟨by omega,by rw [ac (by omega) (by omega)];omega,by omega,by rw [ac (by omega) (by omega)];omega,by omega,@hid _ ?_⟩;intro L K q;exact YA hs (by omega) (by omega) (by omega) (by rw [<- hq.1];exact q)
    ·right;rw [if_neg h128,hGp] at hq;cases hq;exact ⟨by omega,rfl,rfl⟩
   clear hy hy2 h0 h8 hA3 hm hA5 hGp hb3 h6 hq kf;by_cases h7:t / 32 % 2=0
   ·rw [if_pos h7] at h;simp only [bG] at h;have y0:y3=0:=by omega
    obtain ⟨D,hD⟩:=aaR ((s.drop p3).take G);rw [hD] at h;replace h:=hid h;clear hy3 h7;subst y0;rcases hway with ⟨z4,wm,z5,wp,z6,kk2⟩|⟨z4,rfl,rfl⟩
    all_goals
     refine acg aI ?_;refine ay ?_;exact fin.out rfl h.out
   rw [if_neg h7] at h;have y0:y3=1:=by omega
   clear hy3 h7;subst y0;obtain ⟨M,hM⟩:=aaR (lpN (elN f s q) q G p3 []);rw [hM] at h;simp only [bG] at h;replace h:=hid h;have r8:=hN.out.get0;replace hqq:=hid hqq;have hNl:=hN.out.lt;rcases hway with ⟨z4,wm,z5,wp,z6,kk2⟩|⟨z4,rfl,rfl⟩
   all_goals
    replace hM:=hid hM;refine acg aI ?_;refine lF (N+1) 2 3 (c:=[.int .i64 (t:Int),.str [],.sl [] 0 (some 0)]) (l:=[]) (n:=0) (by simp [r4]) rfl (ahQ 3).symm ?_;refine ah (fun mm T' L'=>∃ (acc:List Nd) (k p:Nat) (b:Int) (C:List AV) (X:List Blk),((b=0/\∃ F,mm=F+1/\k+F=G/\q - p<=F/\p<=q/\Hid (lpN (elN f s q) q F p acc=M))\/(b≠0/\mm=0/\k<=G/\Hid (M=(acc,p,b))))/\Hid (C=aC acc/\k=acc.length)/\T'=[(13,.ptr (N+1) 0),(12,.int .i64 (q:Int)),(6,.ptr N 0),(0,.ptr r 0),(2,.int .i64 dep)]/\L'=R (p:Int) b++(.cells [.int .i64 0,.str [],.sl [] 0 (some 0)] :: .cells [.int .i64 (t:Int),.str [],.gsl C k (N+2) 3] :: .spare k 3::X)) (CutS (b:=by simp [r1])) ⟨[],0,p3,0,[],[],.inl ⟨rfl,G,rfl,by omega,by omega,hpq,hM⟩,hid ⟨rfl,rfl⟩,rfl,by simp [r1,r5]⟩ ?_;rintro _ _ _ ⟨acc,k,p,b,C,X,hcase,hCk,rfl,rfl⟩;clear g1 g2 g3 hc0 ht ht256 wt m1 m2 hpl g4 w1 hp1 g5 g6 g7 g8 g9 hc1 hz hz256 wz hp2 w2 z2 z3 m3 z4 z7 w4 wG wq q1 q4;have ends:∀ {p:Nat} {b:Int} {acc:List Nd} {X:List Blk},M=(acc,p,b)->Fin (R (pos:Int) 0) (.agg [.int .i64 t,.str [],.gsl (aC acc) acc.length (N+2) 3]) (R (p:Int) b++X) K:=fun {p b acc X} hm=>by
     have h':=h.out;rw [hm] at h';refine ay ?_;simp only [AV.frz,AV.frzL,bR];exact fin.out (by simp only [AV.refs,AV.refsL,dP];rfl) h'
    replace ends:=@hid _ @ends;rcases hcase with ⟨rfl,F,rfl,hkF,hqF,hpq',hI⟩|⟨hb0,rfl,hkG,hI⟩
    ·by_cases hlt:p<q
     ·have i1:(p:Int)<(q:Int):=by omega
      obtain ⟨F',rfl⟩:∃ F',F=F'+1:=⟨F - 1,by omega⟩;obtain ⟨⟨n,p',b'⟩,hel⟩:∃ x,elN f s q p=x:=⟨_,rfl⟩;have hI2:=hI.out;rw [lpN,if_neg (by omega),hel] at hI2;simp only at hI2;have e0:=bR n.kids;have ec:ndA n=[.int .i64 n.tag,.str n.data,.sl (aC n.kids) n.kids.length none]:=bJ n;have kk9:Hid (∀ X:List Blk,afB 140 [.ptr r 0,.int .i64 (q:Int),.int .i64 (dep+1)] (R (p:Int) 0++X) fun av L'=>av=.agg [.int .i64 n.tag,.str n.data,.sl (aC n.kids) n.kids.length none]/\L'=R (p':Int) b'++X):=hid fun X=>by
       refine ih.out hql (by omega) (by rw [r6];rfl) ?_;rw [hel];simp only;rw [rdB,r7,ec];exact ⟨rfl,rfl⟩
      clear ends hI;replace hI2:=hid hI2;have hC':C++[.int .i64 n.tag,.str n.data,.sl (aC n.kids) n.kids.length none]=aC (acc++[n]):=by rw [hCk.out.1,gN,aC,ec];rfl
      have hk':k+1=(acc++[n]).length:=by rw [hCk.out.2];simp
      have hkb:k<=1048576:=by omega
      replace hC':=hid hC';replace hk':=hid hk';replace hel:=hid hel;clear hCk ec ih;refine wk ?_;refine agq _ _ (kk9.out _) rfl ?_;refine sk ?_;refine wk ?_;by_cases hb:b'=0
      ·subst hb;obtain ⟨o1,o2⟩:=agM hpq' hql hel.out;refine aq (F'+1) _ _ (by omega) (CutL (b:=by simp [r1])) ⟨acc++[n],k+1,p',0,_,_,.inl ⟨rfl,F',rfl,by omega,by omega,o2,hid (by simpa using hI2.out)⟩,hid ⟨hC'.out,hk'.out⟩,rfl,rfl⟩
      ·refine aq 0 _ _ (by omega) (CutL (b:=by simp [r1])) ⟨acc++[n],k+1,p',b',_,_,.inr ⟨hb,rfl,by omega,hid (by rw [<- hI2.out,if_pos hb])⟩,hid ⟨hC'.out,hk'.out⟩,rfl,rfl⟩
     ·have hpe':p=q:=by omega
      have i1:¬ (p:Int)<(q:Int):=by omega
      have hI2:=hI.out;have hlp:lpN (elN f s q) q F p acc=(acc,p,0):=by
       cases F with
       | zero=>rfl
       | succ F=>rw [lpN,if_pos (by omega)]
      rw [hlp] at hI2;obtain ⟨rfl,rfl⟩:=hCk.out;clear hlp hI hkF hqF hpe';replace hI2:=hid hI2;refine wk ?_;exact ends.out hI2.out.symm
    ·obtain ⟨rfl,rfl⟩:=hCk.out;by_cases hlt:p<q
     ·have i1:(p:Int)<(q:Int):=by omega
      refine wk ?_;exact ends.out hI.out
     ·have i1:¬ (p:Int)<(q:Int):=by omega
      refine wk ?_;exact ends.out hI.out
end Go.Proofs.YtobihfefmlgaoaaGreat.Av
