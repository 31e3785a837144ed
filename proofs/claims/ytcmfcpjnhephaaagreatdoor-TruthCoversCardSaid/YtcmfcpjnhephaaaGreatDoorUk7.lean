/- Joined texts of the walk, made small by a program. -/
import Derived.Test.YtcmfcpjnhephaaaGreatDoorUk5
import Derived.Test.YtcmfcpjnhephaaaGreatDoorUk6
import Derived.Test.YtcmfcpjnhephaaaGreatDoorUk4
import Derived.Shelf.Sort.Plain
import Derived.Test.YtcmfcpjnhephaaaGreatDoorRows
import Derived.KernelRfl
import Derived.Sort.Walk0
set_option linter.unusedSimpArgs false
set_option linter.unusedVariables false
namespace Go.Proofs.YtcmfcpjnhephaaaGreatDoor.Av
open Go Go.Sort
variable {L:List Blk}{K:alp}
abbrev cI(xs:List (List UInt8)):List AV:=xs.map AV.str
theorem VB{xs:List (List UInt8)}{sep:List UInt8}{cap:Option Nat}(hn:xs.length<=1100000)(hl:(Lib.join xs sep).length<=140737488355328)(h:K (.str (Lib.join xs sep)) L):
  alo 215 [.sl (cI xs) xs.length cap,.str sep] L K :=
 cH Tryz.func215 rfl aoL (λw0 S0 E w vs hR hv=>by
  simp only[VRL,VR]at hv;obtain⟨_,_,rfl,⟨p,c,rfl,hle,_,hp⟩,_,_,rfl,rfl,rfl⟩:=hv;by_cases hx:xs=[];subst hx;exact(Tryz.strings_Join_none p c ⟨⟨sep⟩⟩ w).mono λe w' ⟨he,hw⟩=>⟨_,he,by simp[VR,Lib.join],by subst hw;exact sx.refl _⟩
  rcases hp with⟨e0,_⟩|⟨b,o,rfl,hcells⟩;exact absurd (al1.1 e0) hx;have hmem:∀(j:Nat) x,(xs.map λs=>(⟨⟨s⟩⟩:ByteArray))[j]?=some x->w.cell? ⟨b,o+j,none⟩=some (.string x):=λj x hj=>by rw[amc]at hj;rcases hxs:xs[j]? with _|s;rw[hxs]at hj;cases hj;rw[hxs]at hj;simp only[alL,als]at hj;subst hj;obtain⟨v,g1,g2⟩:=hcells.get (i:=j) (a:=.str s) (by rw[amc,hxs];rfl);simp only[VR]at g2;subst g2;exact hR.mem _ _ _ g1
  have hb:b<w.heap.size:=by have hx0:0<xs.length:=amH.2 hx;have h0:=hmem 0 ⟨⟨xs[0]⟩⟩ (by rw[amc,alH hx0];rfl);rcases alK b w.heap.size with g|g;exact g;simp[World.cell?,anT g]at h0
  have hmm:(xs.map λs=>(⟨⟨s⟩⟩:ByteArray)).map (·.data.toList)=xs:=(by rw[al0];exact List.map_id'' (λ_=>rfl) xs);have key:=Tryz.strings_Join b o c (xs.map λs=>(⟨⟨s⟩⟩:ByteArray)) ⟨⟨sep⟩⟩ w hmem hb (by rw[al5];omega) (by rw[al5];exact hle) (by rw[hmm];exact hl);rw[hmm]at key;simp only[al5]at key;exact key.mono λe w' ⟨he,hbel⟩=>⟨_,he,by simp[VR],⟨λb hb=>hbel.block b hb,hbel.size,hbel.os,hbel.tape,hbel.output⟩⟩) h
theorem Rel.putStrs{w0:World}{S0:SB}{E:Env}{L:List Blk}{w:World}(h:Rel w0 S0 E L w){i:Nat}{xs d:List (List UInt8)}{rest:List AV}{c:Loc}(hi:L[i]?=some (.cells (cI xs++rest)))(hc:E.loc i=some c)(hd:d.length=xs.length)(q:Nat):
  Rel w0 S0 E (L.set i (.cells (cI d++rest))) (putRow encStr (Sort.ahead w q) c.blk c.off d.toArray):=by
 obtain⟨c',cs,ty,fr,h1,h2,h3,h4,h5,h6⟩:=h.blk i _ hi;rw[hc]at h1;cases h1;have hlt:c.blk<w.heap.size:=(amt.1 h2).1;have e1:(putRow encStr (Sort.ahead w q) c.blk c.off d.toArray).heap[c.blk]?=some (.cells (putCells encStr c.off d.toArray cs) ty fr):=by simp[putRow,mapBlock,Sort.ahead,ann,h2,onCells]
 have hlen:(cI xs++rest).length=xs.length+rest.length:=aoK;refine h.turn (k':=.cells (cI d++rest)) hi rfl hc aoK (λb hb=>?_) rfl rfl rfl ⟨c,_,ty,fr,hc,e1,by simp[putCells,h3],?_,λj a ha=>?_,h6⟩ (λ_ _ e=>by cases e);have:c.blk≠b:=λe=>hb e.symm
 simp[putRow,mapBlock,Sort.ahead,ann,this];rw[hlen]at h4;simp only[alJ,al5,hd];omega;rw[hlen]at h4;have hj:j<d.length+rest.length:=by have:=(alq.1 ha).1;simpa using this
 have hcs:c.off+j<cs.size:=aoJ;have ep:(putCells encStr c.off d.toArray cs)[c.off+j]?=some (if c.off<=c.off+j/\c.off+j<c.off+d.length then encStr (d.toArray[c.off+j-c.off]!)else cs[c.off+j]):=by simp[putCells,hcs]
 by_cases hjd:j<d.length;have ea:a=.str d[j]:=by rw[aly (by simpa using hjd)]at ha;simpa[hjd]using ha.symm
 subst ea;refine⟨_,ep,?_⟩;rw[if_pos aoJ,show c.off+j-c.off=j by omega];simp[VR,encStr,hjd];have ha':(cI xs++rest)[j]?=some a:=by rw[alT (by simp;omega)]at ha⊢;simpa[hd]using ha
 obtain⟨v,g1,g2⟩:=h5 j a ha';refine⟨v,?_,g2⟩;rw[ep,if_neg aoJ,<- g1];simp[hcs]
theorem U4{w0:World}{S0:SB}{E:Env}{L:List Blk}{w:World}(h:Rel w0 S0 E L w){i:Nat}{xs:List (List UInt8)}{rest:List AV}{c:Loc}(hi:L[i]?=some (.cells (cI xs++rest)))(hc:E.loc i=some c):
  Holds encStr w c.blk c.off xs.toArray/\c.blk<w.heap.size:=by
 obtain⟨c',cs,ty,fr,h1,h2,h3,h4,h5,h6⟩:=h.blk i _ hi;rw[hc]at h1;cases h1;refine⟨λj hj=>?_,(amt.1 h2).1⟩;have hj':j<xs.length:=by simpa using hj
 obtain⟨v,g1,g2⟩:=h5 j (.str xs[j]) (by rw[aly (by simpa using hj')];simp[hj']);simp only[VR]at g2;subst g2;refine⟨by simp[World.cell?,encStr,h2,g1,hj'],?_⟩;have h7:=h6 (c.off+j) aoJ (by simp only[alJ,al5]at h4;omega);simp only[World.frozen?,h2];obtain⟨f1,f2⟩:=fr;simp only at h7;simp only[anJ,decide_eq_false_iff_not];omega
theorem F1{P:Program}{f:FuncId}{fn:Func}(hf:P.funcs[f]?=some fn)(hb:fn.body.isSome=true)(hn:(fn.name == "runtime.NumGoroutine")=false)(args:Array Value)(w:World):(callFunc f args).run P w=.ok (.enter f args) w:=by
 simp only[callFunc,alz,run_program,alB,hf,hn];cases h:fn.body with
 |none=>simp[h]at hb
 |some c=>simp
def dY(xs:List (List UInt8)):List (List UInt8):=xs.mergeSort λx y=>decide (x<=y)
theorem ahW{xs:List (List UInt8)}{i:Nat}{cp:Option Nat}{rest:List AV}(hx:xs≠[])(hn:xs.length<=1100000)(hL:L[i]?=some (.cells (cI xs++rest)))(h:K (.tup []) (L.set i (.cells (cI (dY xs)++rest)))):
  alo 214 [.lsl i 0 xs.length cp 1] L K:=λw0 S0 E w vs hR hv=>by
 simp only[VRL,VR]at hv;obtain⟨_,_,rfl,⟨c,rc,d,hc,rfl,hd,hle,_,_⟩,rfl⟩:=hv;have hpos:0<xs.length:=amH.2 hx;have hd':d=c.off:=by have:=hd aoJ;omega
 subst hd';obtain⟨hH,hlt⟩:=U4 hR hL hc;refine .inl ⟨F1 Tryz.func214 rfl aoL _ _,(Tryz.slices_Sort_string c.blk c.off rc xs w hH hlt aoJ).mono ?_⟩;rintro e w' ⟨rfl,q,os,rfl⟩;have r1:=hR.putStrs hL hc (d:=dY xs) (by simp[dY]) q;refine⟨E,_,_,_,rfl,.refl E,h,by simp[VR,VRL],r1.grown ?_⟩;exact⟨λb hb=>aoc hb,by simp[grow],rfl,rfl,rfl⟩
theorem afc{cap:Option Nat}(h:K (.tup []) L):alo 214 [.sl [] 0 cap] L K :=
 cH Tryz.func214 rfl aoL (λw0 S0 E w vs hR hv=>by simp only[VRL,VR]at hv;obtain⟨_,_,rfl,⟨p,c,rfl,_⟩,rfl⟩:=hv;exact(Tryz.slices_Sort_string_none p c w).mono λe w' ⟨he,hw⟩=>⟨_,he,by simp[VR,VRL],by subst hw;exact sx.refl _⟩) h
theorem aiu{xs:List (List UInt8)}{sep:List UInt8}{i:Nat}{cp:Option Nat}(hx:xs≠[])(hn:xs.length<=1100000)(hl:(Lib.join xs sep).length<=140737488355328)(hL:L[i]?=some (.cells (cI xs)))(h:K (.str (Lib.join xs sep)) L):
  alo 215 [.lsl i 0 xs.length cp 1,.str sep] L K:=λw0 S0 E w vs hR hv=>by
 simp only[VRL,VR]at hv;obtain⟨_,_,rfl,⟨c,rc,d,hc,rfl,hd,hle,_,_⟩,_,_,rfl,rfl,rfl⟩:=hv;have hpos:0<xs.length:=amH.2 hx;have hd':d=c.off:=by have:=hd aoJ;omega
 subst hd';obtain⟨hH,hlt⟩:=U4 (rest:=[]) hR (by simpa using hL) hc;have hmem:∀(j:Nat) x,(xs.map λs=>(⟨⟨s⟩⟩:ByteArray))[j]?=some x->w.cell? ⟨c.blk,c.off+j,none⟩=some (.string x):=λj x hj=>by have hjl:j<xs.length:=(by have:=(alq.1 hj).1;simpa using this);have e:=(hH j (by simpa using hjl)).1;rw[amc,alH hjl]at hj;simp only[alL,als]at hj;subst hj;rw[e];simp[encStr,hjl]
 have hmm:(xs.map λs=>(⟨⟨s⟩⟩:ByteArray)).map (·.data.toList)=xs:=by rw[al0];exact List.map_id'' (λ_=>rfl) xs
 have key:=Tryz.strings_Join c.blk c.off rc (xs.map λs=>(⟨⟨s⟩⟩:ByteArray)) ⟨⟨sep⟩⟩ w hmem hlt (by rw[al5];omega) (by rw[al5];exact hle) (by rw[hmm];exact hl);rw[hmm]at key;simp only[al5]at key;refine .inl ⟨F1 Tryz.func215 rfl aoL _ _,key.mono ?_⟩;rintro e w' ⟨rfl,hbel⟩;exact⟨E,_,_,_,rfl,.refl E,h,by simp[VR],hR.grown ⟨λb hb=>hbel.block b hb,hbel.size,hbel.os,hbel.tape,hbel.output⟩⟩
end Go.Proofs.YtcmfcpjnhephaaaGreatDoor.Av
set_option maxRecDepth 100000
namespace Go.Proofs.YtcmfcpjnhephaaaGreatDoor.Av
open Go
def TF:LSO:=[As 4]
def TE:LSO:=[Al 5]
def TD:LSO:=[Aa 11 0,Am 12 11,Ab 13 0]
def TC:LSO:=[Ak 14 13 12]
def TB:LSO:=[Ao 15 1 11 13,Ac 16 1 15,Aa 7 16]
def TA:LSO:=[Al 8]
def Tz:LSO:=[Aa 17 7,Am 18 17,Ab 19 0]
def Ty:LSO:=[Ak 20 19 18]
def Tx:LSO:=[Ao 21 2 17 19,Ap 22 2 21,Bi 10,Aj 2 10 22]
def Tw:LSO:=[Aa 23 1]
def Q9:List (aj×Kd):=
 [A5 24 0 10,A0 25 1 24 0 0,Bb 26 38 25 0 0,A5 27 1 10,A0 28 1 27 0 0]
def Ox:List aj :=
 [⟨(some 29),(.call 95 [(tm 28)]),none⟩,⟨(some 30),(.build [(.str []),(.str [])] [(0,(1,(tm 26))),(1,(1,(tm 29)))]),none⟩,⟨none,(.store 2 (tm 10) (tm 30)),none⟩]
def Q8:List (aj×Kd):=
 [A7 31 8,A5 32 0 10,A0 33 1 32 0 0,od 34 (.bin .add (tm 33) (.av (.str [61]))) .pure,A5 35 1 10,A0 36 1 35 0 0,Bb 37 213 36 0 0,od 38 (.bin .add (tm 34) (tm 37)) .pure,
 od 39 (.bslice false 1 1 [(.str [])] [(0,(1,(tm 38)))]) (.read 0 0)]
def Ow:List aj :=
 [⟨(some 40),(.app 2 1 16 [(.str [])] (tm 31) (tm 39)),none⟩,⟨(some 8),(.mv (tm 40)),none⟩]
def Q7:LSO:=[Ag 41 19 1,Aa 19 41]
def Q6:LSO:=[Aa 42 1]
def Q5:LSO:=[Aa 43 8,Ai 44 214 43]
def Q4:LSO:=[Aa 45 5,Aa 46 8,o1 47 (.call 215 [(tm 46),(.av (.str [43]))]),Bq 48 47,Bj 49 45 48,Aa 5 49]
def Q3:LSO:=[Ag 50 13 1,Aa 13 50]
def Q2:LSO:=[Aa 51 5,o1 52 (.call 215 [(tm 51),(.av (.str [44]))]),Aa 4 52]
def xG:aQ:=⟨53,(aoC TF [] (aoC TE [] (.seq (aoC TD [] (aoF 0 (aoC TC [] (.seq (aoG 14 0) (.seq (.block 1 (aoC TB Cx (aoC TA [] (.seq (aoC Tz [] (aoF 2 (aoC Ty [] (.seq (aoG 20 2) (.seq (.block 3 (aoC Tx Cx (.seq (aoC Tw [] (aoD 23 (.dregM Q9 Ox CA) .skip)) (.dregM Q8 Ow CN)))) (.sreg Q7 Cw)))))) (.seq (aoC Q6 [] (aoD 42 (.sreg Q5 C7) .skip)) (.sreg Q4 C0)))))) (.sreg Q3 Cw)))))) (aoC Q2 Cx .ret)))),[(.tmp 4)]⟩
attribute [push_cast] TF TE TD TC TB TA Tz Ty Tx Tw Q9 Ox Q8 Ow Q7 Q6 Q5 Q4 Q3 Q2
theorem Sl:aZ Tryz.prog (λr i=>if r=11/\i=9 then 2 else 1) 178=some xG.raw:=aoL
attribute [push_cast] xG
variable {L:List Blk}{K:alp}
set_option maxHeartbeats 8000000
set_option maxRecDepth 100000
def avT(key:Bool)(a:Ava):List UInt8:=if key=true then af a.1++[61]++fa (bH a.2)else a.1++[61]++fa a.2
def dG(key:Bool)(r:Rdn):List UInt8:=Lib.join (if key=true then dY (r.map (avT key))else r.map (avT key)) [43]
def eK(key:Bool)(d:List Rdn):List UInt8:=Lib.join (d.map (dG key)) [44]
theorem PV(n:Nat):∀(s:List UInt8) (i:Nat),(wrL n i s).length<=3*s.length
 |[],_=>by simp[wrL]
 |c::s,i=>by have h1:=PV n s (i+1);have h2:=ahN i n c;simp only[wrL,alJ,alA];omega
theorem adh(l:List (List UInt8)):AV.frzL (cI l)=cI l:=by rw[AV.frzL_eq,al0];rfl
theorem acG{xs:List (List UInt8)}{sep:List UInt8}{i n:Nat}(hx:n=xs.length)(hn:xs.length<=1100000)(hl:(Lib.join xs sep).length<=140737488355328)(h:K (.str (Lib.join xs sep)) L):
  alo 215 [.gsl (cI xs) n i 1,.str sep] L K:=by
 subst hx;exact eY (by simpa only[AV.frzL,AV.frz,adh]using VB (cap:=none) hn hl h)
theorem ZZ{xs:List (List UInt8)}{sep:List UInt8}{i n:Nat}{cp:Option Nat}(he:n=xs.length)(hx:xs≠[])(hn:xs.length<=1100000)(hl:(Lib.join xs sep).length<=140737488355328)(hL:L[i]?=some (.cells (cI xs)))(h:K (.str (Lib.join xs sep)) L):
  alo 215 [.lsl i 0 n cp 1,.str sep] L K:=by
 subst he;exact aiu hx hn hl hL h
theorem ahT{d:List Rdn}{cap:Option Nat}(hn:d.length<=1000)(hr:∀r∈d,r.length<=1000/\∀a∈r,a.1.length<=10000/\a.2.length<=10000)(hj1:∀r∈d,(dG false r).length<=140737488355328)(hj2:(eK false d).length<=140737488355328)(h:K (.str (eK false d)) L):
  alo 178 [.sl (d.map cL) d.length cap,.bool false] L K:=by
 replace h:=hid h;have hat:=hid (λk=>@Pi d k);replace hr:=hid hr;replace hj1:=hid hj1;have s4:∀(W:List Blk) (j:Nat) (A:Blk),L.length<=j->(L++W).set j A=L++W.set (j-L.length) A:=λW j A hj=>amd _ _ hj
 replace s4:=hid s4;refine aln Sl ?_;refine bF (l:=[]) (n:=0) 5 1 rfl (alU 1).symm ?_;refine ah (λn T' L'=>∃(i:Nat) (all:List (List UInt8)) (Z:List Blk),n=d.length-i/\i<=d.length/\Hid (all=(d.take i).map (dG false))/\L'[L.length]?=some (.spare i 1)/\T'=[(13,.int .i64 (i:Int)),(12,.int .i64 d.length),(11,.sl (d.map cL) d.length cap),(5,.gsl (cI all) i L.length 1),(1,.bool false)]/\L'=L++Z) aoN ⟨0,[],[.spare 0 1],rfl,alw _,hid rfl,aoK,rfl,rfl⟩ ?_;rintro _ _ _ ⟨i,all,X,rfl,hi,hall,ho,rfl,rfl⟩;by_cases hlt:i<d.length
 .have g1:(i:Int)<(d.length:Int):=aoJ;have g2:=alm i aoJ;have e2:=hat.o i hlt;have hrm:d.getD i []∈d:=(by rw[alR,alH hlt];exact amu _);have hrl:=hr.o _ hrm;have hjr:=hj1.o _ hrm;obtain⟨r,hri⟩:=alj (d.getD i []);have htk:d.take (i+1)=d.take i++[r]:=(by rw[alN hlt,<- hri];simp[hlt]);rw[hri]at e2 hrl hjr;clear hri hrm;obtain⟨hrl1,hrl2⟩:=hrl;replace hrl2:=hid hrl2;replace htk:=hid htk;have hX:=(alq.1 ho).1;rw[alJ]at hX;replace hX:=hid hX;refine wk ?_;refine ah (λn T' L'=>∃(k:Nat) (v:AV) (Z:List Blk),n=r.length-k/\k<=r.length/\X.length<=Z.length/\L'[L.length]?=some (.spare i 1)/\Hid ((v=.sl [] 0 (some 0)/\k=0)\/∃j,(0<k/\L.length<j)/\v=.lsl j 0 k none 1/\L'[j]?=some (.cells (cI ((r.take k).map (avT false)))))/\T'=[(19,.int .i64 (k:Int)),(18,.int .i64 r.length),(17,cL r),(8,v),(13,.int .i64 (i:Int)),(12,.int .i64 d.length),(11,.sl (d.map cL) d.length cap),(5,.gsl (cI all) i L.length 1),(1,.bool false)]/\L'=L++Z) aoN ⟨0,_,X,rfl,alw _,alr _,ho,hid (.inl ⟨rfl,rfl⟩),rfl,rfl⟩ ?_;rintro _ _ _ ⟨k,v,Z,rfl,hk,hXZ,ho2,hv,rfl,rfl⟩;replace hXZ:=hid hXZ;by_cases hkl:k<r.length
  .have g3:(k:Int)<(r.length:Int):=aoJ;have g4:=alm k aoJ;have e3:=gy hkl;have e4:k*2+2<=(bb r).length:=(by rw[dW];omega);obtain⟨⟨ty,va⟩,ha⟩:∃a,r.getD k ([],[])=a:=⟨_,rfl⟩;have ham:(ty,va)∈r:=(by rw[<- ha];simp[hkl]);have htk2:(r.take (k+1)).map (avT false)=(r.take k).map (avT false)++[ty++61::fa va]:=by rw[alN hkl];have:r[k]=(ty,va):=(by rw[<- ha];simp[hkl]);rw[this];simp[avT]
   rw[ha]at e3;simp only[sD]at e3;have hva:=hrl2.o _ ham;simp only at hva;have hva':va.length<=100000:=aoJ;have hwl:=PV va.length va 0;have b1:(ty.length:Int)+1<=9223372036854775807:=aoJ;have b2:(ty.length:Int)+1+((fa va).length:Int)<=9223372036854775807:=(by unfold fa;omega);clear hwl ha ham hva;replace htk2:=hid htk2;have q1:(k+1)*16<=140737488355328:=aoJ;have q2:k+1<=140737488355328:=aoJ;have q3:k<=140737488355327:=aoJ;rcases hv.o with⟨rfl,hk0⟩|⟨j,⟨hk1,hBj⟩,rfl,hj⟩;replace hk0:=hid hk0;have kk1:=@aoQ _ _ _ _ (fV hva');refine wk ?_;refine aoO aoJ (CutL (b:=?_)) ⟨k+1,.lsl (L.length+(Z.length+1)) 0 1 none 1,_,rfl,hkl,?_,?_,hid (.inr ⟨L.length+(Z.length+1),⟨aoJ,aoJ⟩,by rw[hk0.o],?_⟩),rfl,rfl⟩;have:=hXZ.o;simp;omega;have:=hXZ.o;simp;omega;rw[<- alI,aly (alq.1 ho2).1];exact ho2;rw[oM,oM,htk2.o,hk0.o];rfl
   .obtain⟨cur,hcur⟩:=alj ((r.take k).map (avT false));have hcl:cur.length=k:=(by rw[<- hcur];simp;omega);rw[hcur]at hj;have f1:(L++(Z++[Blk.cells [.str ty,.str va]]))[j]?=some (.cells (cI cur)):=by rw[<- alI,aly (alq.1 hj).1];exact hj
    have f2:(L++(Z++[Blk.cells [.str ty,.str va]])).set j .dead=L++(Z++[Blk.cells [.str ty,.str va]]).set (j-L.length) .dead:=s4.o _ _ _ aoJ;have f3:k<=(cI cur).length:=(by simp[hcl]);have f4:(cI cur).take k=cI cur:=ams (by simp[hcl]);replace hcur:=hid hcur;replace hcl:=hid hcl;have hjL:=hid (show j≠L.length by omega);have f2':=hid f2
    repeat' first
     |refine bd ?_
     | (first|refine aV aoL ?_|refine aB aoL ?_|refine aE ?_|refine bJ ?_|refine bg (fun _=>?_)|refine ax ?_|refine aY ?_|refine fV hva' ?_|refine aU (fV hva' ⟨rfl,rfl⟩) (fV hva' ⟨rfl,rfl⟩) ?_|refine aA (fV hva' ⟨rfl,rfl⟩) ?_)
       refine sm ?_
     | (first|refine aO aoL ?_|refine aP ?_|refine aD ?_|refine aW ?_|refine bq (aw ?_))
       refine sl ?_
     |exact bh
     |first|apply bj|apply aR|apply bm|apply aS|apply bo|apply aT
     |refine aH ?_
     |refine aC ?_
     |first|refine aF rfl ?_|refine aG rfl ?_|refine ao rfl ?_ ?_|refine aJ rfl (λ_=>?_) (λ_=>?_)|refine aI rfl (λ_=>?_) (λ_=>?_)
     |((first|refine an (λ_=>?_) (λ_=>?_)|refine au (λ_=>?_) (λ_=>?_))<;>try refine sm ?_)
     |refine And.intro trivial ?_
     |refine And.intro aoJ ?_
     |refine aL rfl (λ_=>?_) (λ_=>?_)
     |refine And.intro ?_ ?_
    rw[hcl.o];exact alr _;have hA:((Z++[Blk.cells [.str ty,.str va]]).set (j-L.length) .dead).length=Z.length+1:=aoK;refine aoO aoJ (CutL (b:=?_)) ⟨k+1,.lsl (L.length+(Z.length+1)) 0 (k+1) none 1,_,rfl,hkl,?_,?_,hid (.inr ⟨L.length+(Z.length+1),⟨aoJ,aoJ⟩,rfl,?_⟩),rfl,rfl⟩;have:=hXZ.o;simp;omega;have:=hXZ.o;simp;omega;rw[<- alI,<- f2'.o,aly aoK,alP hjL.o,<- alI,aly (alq.1 ho2).1];exact ho2;rw[oM,<- hA,rn,htk2.o,hcur.o];simp
  have hke:k=r.length:=aoJ;subst hke;have g3:¬(r.length:Int)<(r.length:Int):=aoJ;have q4:(i+1)*16<=140737488355328:=aoJ;have q5:i+1<=140737488355328:=aoJ;have hrow:dG false r=Lib.join (r.map (avT false)) [43]:=(by simp[dG]);rw[hrow]at hjr;have htk3:(d.take (i+1)).map (dG false)=all++[Lib.join (r.map (avT false)) [43]]:=by rw[htk.o,alW,<- hall.o,<- hrow];rfl
  have f0:(L++Z).set L.length (.spare (i+1) 1)=L++Z.set 0 (.spare (i+1) 1):=(by rw[s4.o _ _ _ (alr _),amK]);have f1:(L++Z.set 0 (.spare (i+1) 1))[L.length]?=some (.spare (i+1) 1):=by rw[<- f0,alO,if_pos rfl,if_pos (alq.1 ho2).1]
  replace hrow:=hid hrow;replace htk3:=hid htk3;replace f1:=hid f1;rcases hv.o with⟨rfl,hk0⟩|⟨j,⟨hk1,hBj⟩,rfl,hj⟩;have hr0:r=[]:=al1.1 hk0;replace hk0:=hid hk0;refine wk ?_;refine VB (xs:=[]) aoK (by simp[Lib.join]) ?_;refine aoR ?_;rw[show cI all++[AV.str (Lib.join [] [43])]=cI (all++[Lib.join [] [43]])by simp];exact aoO aoJ (CutL (b:=by have:=hX.o;have h0:=(alq.1 ho2).1;simp at h0⊢;omega)) ⟨i+1,all++[Lib.join [] [43]],_,rfl,hlt,hid (by rw[htk3.o,hr0];rfl),f1.o,rfl,rfl⟩;rw[alF]at hj;by_cases hr0:r=[];rw[hr0]at hk1;cases hk1;refine wk ?_;refine ZZ (xs:=r.map (avT false)) aoK (by simpa using hr0) (by simp;omega) hjr (by simpa using hj) ?_;refine aoR ?_;rw[show cI all++[AV.str (Lib.join (r.map (avT false)) [43])]=cI (all++[Lib.join (r.map (avT false)) [43]])by simp];exact aoO aoJ (CutL (b:=by have h0:=(alq.1 ho2).1;simp at h0⊢;omega)) ⟨i+1,all++[Lib.join (r.map (avT false)) [43]],_,rfl,hlt,hid htk3.o.symm,f1.o,rfl,rfl⟩
 have hke:i=d.length:=aoJ;subst hke;have g1:¬(d.length:Int)<(d.length:Int):=aoJ;have e:=hall.o;rw[alF]at e;have h':=h.o;simp only[eK]at h' hj2;replace h':=hid h';clear hall;subst e;refine wk ?_;refine acG aoK (by simp;omega) hj2 ?_;refine aoR ?_;exact ab rfl h'.o
theorem aa9(s:List UInt8):(bL s).length<=s.length:=by have:=ru s s.length;rwa[alF]at this
theorem rr(s:List UInt8):(bH s).length<=s.length:=by
 have h1:=aa9 (af s);have h2:(af s).length=s.length:=by simp[af]
 unfold bH dC;split;simp only[List.length_dropLast];omega;omega
theorem afb{xs:List (List UInt8)}{i n:Nat}{cp:Option Nat}(he:n=xs.length)(hx:xs≠[])(hn:xs.length<=1100000)(hL:L[i]?=some (.cells (cI xs)))(h:K (.tup []) (L.set i (.cells (cI (dY xs))))):
  alo 214 [.lsl i 0 n cp 1] L K:=by
 subst he;exact ahW (rest:=[]) hx hn (by simpa using hL) (by simpa using h)
theorem Xd(xs:List (List UInt8)):(dY xs).length=xs.length:=by simp[dY]
theorem ahS{d:List Rdn}{cap:Option Nat}(hn:d.length<=1000)(hr:∀r∈d,r.length<=1000/\∀a∈r,a.1.length<=10000/\a.2.length<=10000)(hj1:∀r∈d,(dG true r).length<=140737488355328)(hj2:(eK true d).length<=140737488355328)(h:K (.str (eK true d)) L):
  alo 178 [.sl (d.map cL) d.length cap,.bool true] L K:=by
 replace h:=hid h;have hat:=hid (λk=>@Pi d k);replace hr:=hid hr;replace hj1:=hid hj1;have s4:∀(W:List Blk) (j:Nat) (A:Blk),L.length<=j->(L++W).set j A=L++W.set (j-L.length) A:=λW j A hj=>amd _ _ hj
 replace s4:=hid s4;refine aln Sl ?_;refine bF (l:=[]) (n:=0) 5 1 rfl (alU 1).symm ?_;refine ah (λn T' L'=>∃(i:Nat) (all:List (List UInt8)) (Z:List Blk),n=d.length-i/\i<=d.length/\Hid (all=(d.take i).map (dG true))/\L'[L.length]?=some (.spare i 1)/\T'=[(13,.int .i64 (i:Int)),(12,.int .i64 d.length),(11,.sl (d.map cL) d.length cap),(5,.gsl (cI all) i L.length 1),(1,.bool true)]/\L'=L++Z) aoN ⟨0,[],[.spare 0 1],rfl,alw _,hid rfl,aoK,rfl,rfl⟩ ?_;rintro _ _ _ ⟨i,all,X,rfl,hi,hall,ho,rfl,rfl⟩;by_cases hlt:i<d.length
 .have g1:(i:Int)<(d.length:Int):=aoJ;have g2:=alm i aoJ;have e2:=hat.o i hlt;have hrm:d.getD i []∈d:=(by rw[alR,alH hlt];exact amu _);have hrl:=hr.o _ hrm;have hjr:=hj1.o _ hrm;obtain⟨r,hri⟩:=alj (d.getD i []);have htk:d.take (i+1)=d.take i++[r]:=(by rw[alN hlt,<- hri];simp[hlt]);rw[hri]at e2 hrl hjr;clear hri hrm;obtain⟨hrl1,hrl2⟩:=hrl;replace hrl2:=hid hrl2;replace htk:=hid htk;have hX:=(alq.1 ho).1;rw[alJ]at hX;replace hX:=hid hX;refine wk ?_;refine ah (λn T' L'=>∃(k:Nat) (v:AV) (Z:List Blk),n=r.length-k/\k<=r.length/\X.length<=Z.length/\L'[L.length]?=some (.spare i 1)/\Hid ((v=.sl [] 0 (some 0)/\k=0)\/∃j,(0<k/\L.length<j)/\v=.lsl j 0 k none 1/\L'[j]?=some (.cells (cI ((r.take k).map (avT true)))))/\T'=[(19,.int .i64 (k:Int)),(18,.int .i64 r.length),(17,cL r),(8,v),(13,.int .i64 (i:Int)),(12,.int .i64 d.length),(11,.sl (d.map cL) d.length cap),(5,.gsl (cI all) i L.length 1),(1,.bool true)]/\L'=L++Z) aoN ⟨0,_,X,rfl,alw _,alr _,ho,hid (.inl ⟨rfl,rfl⟩),rfl,rfl⟩ ?_;rintro _ _ _ ⟨k,v,Z,rfl,hk,hXZ,ho2,hv,rfl,rfl⟩;replace hXZ:=hid hXZ;by_cases hkl:k<r.length
  .have g3:(k:Int)<(r.length:Int):=aoJ;have g4:=alm k aoJ;have e3:=gy hkl;have e4:k*2+2<=(bb r).length:=(by rw[dW];omega);obtain⟨⟨ty,va⟩,ha⟩:∃a,r.getD k ([],[])=a:=⟨_,rfl⟩;have ham:(ty,va)∈r:=(by rw[<- ha];simp[hkl]);have htk2:(r.take (k+1)).map (avT true)=(r.take k).map (avT true)++[af ty++61::fa (bH va)]:=by rw[alN hkl];have:r[k]=(ty,va):=(by rw[<- ha];simp[hkl]);rw[this];simp[avT]
   rw[ha]at e3;simp only[sD]at e3;have hva:=hrl2.o _ ham;simp only at hva;have hpl:=rr va;have hva':(bH va).length<=100000:=aoJ;have hva2:(va.length:Int)<=100000:=aoJ;have hty2:(ty.length:Int)<=100000:=aoJ;have hwl:=PV (bH va).length (bH va) 0;have hfl:(af ty).length=ty.length:=(by simp[af]);have b1:((af ty).length:Int)+1<=9223372036854775807:=aoJ;have b2:((af ty).length:Int)+1+((fa (bH va)).length:Int)<=9223372036854775807:=(by unfold fa;omega);clear hwl ha ham hva hfl hpl;replace htk2:=hid htk2;have q1:(k+1)*16<=140737488355328:=aoJ;have q2:k+1<=140737488355328:=aoJ;have q3:k<=140737488355327:=aoJ;rcases hv.o with⟨rfl,hk0⟩|⟨j,⟨hk1,hBj⟩,rfl,hj⟩;replace hk0:=hid hk0;have kk1:=@aoQ _ _ _ _ (Kh hty2);have kk2:=@aoQ _ _ _ _ (xR hva2);have kk3:=@aoQ _ _ _ _ (fV hva');refine wk ?_;refine aoO aoJ (CutL (b:=?_)) ⟨k+1,.lsl (L.length+(Z.length+1)) 0 1 none 1,_,rfl,hkl,?_,?_,hid (.inr ⟨L.length+(Z.length+1),⟨aoJ,aoJ⟩,by rw[hk0.o],?_⟩),rfl,rfl⟩;have:=hXZ.o;simp;omega;have:=hXZ.o;simp;omega;rw[<- alI,aly (alq.1 ho2).1];exact ho2;rw[oM,oM,htk2.o,hk0.o];rfl
   .obtain⟨cur,hcur⟩:=alj ((r.take k).map (avT true));have hcl:cur.length=k:=(by rw[<- hcur];simp;omega);rw[hcur]at hj;have f1:(L++(Z++[Blk.cells [.str (af ty),.str (bH va)]]))[j]?=some (.cells (cI cur)):=by rw[<- alI,aly (alq.1 hj).1];exact hj
    have f2:(L++(Z++[Blk.cells [.str (af ty),.str (bH va)]])).set j .dead=L++(Z++[Blk.cells [.str (af ty),.str (bH va)]]).set (j-L.length) .dead:=s4.o _ _ _ aoJ;have f3:k<=(cI cur).length:=(by simp[hcl]);have f4:(cI cur).take k=cI cur:=ams (by simp[hcl]);replace hcur:=hid hcur;replace hcl:=hid hcl;have hjL:=hid (show j≠L.length by omega);have f2':=hid f2
    repeat' first
     |refine bd ?_
     | (first|refine aV aoL ?_|refine aB aoL ?_|refine aE ?_|refine bJ ?_|refine bg (fun _=>?_)|refine ax ?_|refine aY ?_|refine Kh hty2 ?_|refine xR hva2 ?_|refine fV hva' ?_|refine aU (Kh hty2 ⟨rfl,rfl⟩) (Kh hty2 ⟨rfl,rfl⟩) ?_|refine aU (xR hva2 ⟨rfl,rfl⟩) (xR hva2 ⟨rfl,rfl⟩) ?_|refine aU (fV hva' ⟨rfl,rfl⟩) (fV hva' ⟨rfl,rfl⟩) ?_|refine aA (Kh hty2 ⟨rfl,rfl⟩) ?_|refine aA (xR hva2 ⟨rfl,rfl⟩) ?_|refine aA (fV hva' ⟨rfl,rfl⟩) ?_)
       refine sm ?_
     | (first|refine aO aoL ?_|refine aP ?_|refine aD ?_|refine aW ?_|refine bq (aw ?_))
       refine sl ?_
     |exact bh
     |first|apply bj|apply aR|apply bm|apply aS|apply bo|apply aT
     |refine aH ?_
     |refine aC ?_
     |first|refine aF rfl ?_|refine aG rfl ?_|refine ao rfl ?_ ?_|refine aJ rfl (λ_=>?_) (λ_=>?_)|refine aI rfl (λ_=>?_) (λ_=>?_)
     |((first|refine an (λ_=>?_) (λ_=>?_)|refine au (λ_=>?_) (λ_=>?_))<;>try refine sm ?_)
     |refine And.intro trivial ?_
     |refine And.intro aoJ ?_
     |refine aL rfl (λ_=>?_) (λ_=>?_)
     |refine And.intro ?_ ?_
    rw[hcl.o];exact alr _;have hA:((Z++[Blk.cells [.str (af ty),.str (bH va)]]).set (j-L.length) .dead).length=Z.length+1:=aoK;refine aoO aoJ (CutL (b:=?_)) ⟨k+1,.lsl (L.length+(Z.length+1)) 0 (k+1) none 1,_,rfl,hkl,?_,?_,hid (.inr ⟨L.length+(Z.length+1),⟨aoJ,aoJ⟩,rfl,?_⟩),rfl,rfl⟩;have:=hXZ.o;simp;omega;have:=hXZ.o;simp;omega;rw[<- alI,<- f2'.o,aly aoK,alP hjL.o,<- alI,aly (alq.1 ho2).1];exact ho2;rw[oM,<- hA,rn,htk2.o,hcur.o];simp
  have hke:k=r.length:=aoJ;subst hke;have g3:¬(r.length:Int)<(r.length:Int):=aoJ;have q4:(i+1)*16<=140737488355328:=aoJ;have q5:i+1<=140737488355328:=aoJ;have hrow:dG true r=Lib.join (dY (r.map (avT true))) [43]:=(by simp[dG]);rw[hrow]at hjr;have htk3:(d.take (i+1)).map (dG true)=all++[Lib.join (dY (r.map (avT true))) [43]]:=by rw[htk.o,alW,<- hall.o,<- hrow];rfl
  replace hrow:=hid hrow;replace htk3:=hid htk3;rcases hv.o with⟨rfl,hk0⟩|⟨j,⟨hk1,hBj⟩,rfl,hj⟩;have hr0:r=[]:=al1.1 hk0;have f0:(L++Z).set L.length (.spare (i+1) 1)=L++Z.set 0 (.spare (i+1) 1):=(by rw[s4.o _ _ _ (alr _),amK]);have f1:(L++Z.set 0 (.spare (i+1) 1))[L.length]?=some (.spare (i+1) 1):=by rw[<- f0,alO,if_pos rfl,if_pos (alq.1 ho2).1]
  replace f1:=hid f1;replace hk0:=hid hk0;refine wk ?_;refine afc ?_;refine aoR ?_;refine VB (xs:=[]) aoK (by simp[Lib.join]) ?_;refine aoR ?_;rw[show cI all++[AV.str (Lib.join [] [43])]=cI (all++[Lib.join [] [43]])by simp];exact aoO aoJ (CutL (b:=by have:=hX.o;have h0:=(alq.1 ho2).1;simp at h0⊢;omega)) ⟨i+1,all++[Lib.join [] [43]],_,rfl,hlt,hid (by rw[htk3.o,hr0];simp[dY]),f1.o,rfl,rfl⟩;rw[alF]at hj;have hr0:r≠[]:=λe=>by rw[e]at hk1;cases hk1
  obtain⟨xs,hxs⟩:=alj (r.map (avT true));have hxl:r.length=xs.length:=(by rw[<- hxs];simp);have hxne:xs≠[]:=λe=>hr0 (by have:=hxl;rw[e]at this;exact al1.1 this)
  rw[hxs]at hj hjr htk3;have hsl:=Xd xs;have hjl:L.length+(j-L.length)=j:=aoJ;have f2:(L++Z).set j (.cells (cI (dY xs)))=L++Z.set (j-L.length) (.cells (cI (dY xs))):=s4.o _ _ _ aoJ;have f3:(L++Z.set (j-L.length) (.cells (cI (dY xs))))[j]?=some (.cells (cI (dY xs))):=by rw[<- f2,alO,if_pos rfl,if_pos (alq.1 hj).1]
  have ho3:(L++Z.set (j-L.length) (.cells (cI (dY xs))))[L.length]?=some (.spare i 1):=by rw[<- f2,alP aoJ];exact ho2
  clear ho2;replace hj:=hid hj;generalize hZ1:Z.set (j-L.length) (.cells (cI (dY xs)))=Z1 at f2 f3 ho3;have f0:(L++Z1).set L.length (.spare (i+1) 1)=L++Z1.set 0 (.spare (i+1) 1):=(by rw[s4.o _ _ _ (alr _),amK]);have f1:(L++Z1.set 0 (.spare (i+1) 1))[L.length]?=some (.spare (i+1) 1):=by rw[<- f0,alO,if_pos rfl,if_pos (alq.1 ho3).1]
  replace f1:=hid f1;replace f2:=hid f2;replace f3:=hid f3;replace hxs:=hid hxs;replace hxl:=hid hxl;replace hsl:=hid hsl;clear hZ1;replace hxne:=hid hxne;refine wk ?_;refine afb hxl.o hxne.o (by have:=hxl.o;omega) hj.o ?_;rw[f2.o];refine aoR ?_;refine ZZ (xs:=dY xs) (by rw[hsl.o];exact hxl.o) (λe=>hxne.o (by have:=hsl.o;rw[e]at this;exact al1.1 this.symm)) (by have:=hxl.o;rw[hsl.o];omega) hjr f3.o ?_;refine aoR ?_;rw[show cI all++[AV.str (Lib.join (dY xs) [43])]=cI (all++[Lib.join (dY xs) [43]])by simp];exact aoO aoJ (CutL (b:=by have h0:=(alq.1 ho3).1;simp at h0⊢;omega)) ⟨i+1,all++[Lib.join (dY xs) [43]],_,rfl,hlt,hid htk3.o.symm,f1.o,rfl,rfl⟩
 have hke:i=d.length:=aoJ;subst hke;have g1:¬(d.length:Int)<(d.length:Int):=aoJ;have e:=hall.o;rw[alF]at e;have h':=h.o;simp only[eK]at h' hj2;replace h':=hid h';clear hall;subst e;refine wk ?_;refine acG aoK (by simp;omega) hj2 ?_;refine aoR ?_;exact ab rfl h'.o
def J9(r:Rdn):Bool:=r.any λa=>decide (4096<a.2.length)
def RR(d:List Rdn):Bool:=d.any J9
theorem X9:∀(t done:Rdn),ek done t=0->done.length<=8->(done++t).length<=8/\∀a∈t,a.1.length<=32
 |[],done,_,h=>by simp;exact h
 | a::t,done,h,hd=>by
   simp only[ek]at h;split at h
   .cases h
   .split at h
    .cases h
    .split at h
     .cases h
     .rename_i h1 h2 h3;have:=X9 t (done++[a]) h (by simp;omega);refine⟨by simpa using this.1,λb hb=>?_⟩;rcases alu.1 hb with rfl|hb
      .exact uf (by simpa using h2)
      .exact this.2 b hb
theorem US:∀(d:List Rdn) (i:Nat),mI i d=0->i<=32->i+d.length<=32/\∀r∈d,r.length<=8/\∀a∈r,a.1.length<=32
 |[],i,_,h=>by simp;exact h
 | r::d,i,h,hi=>by
   simp only[mI]at h;split at h
   .cases h
   .split at h
    .cases h
    .split at h
     .rename_i h3;exact absurd h h3
     .rename_i h1 h2 h3;have h3':ek [] r=0:=(by simpa using h3);have a1:=X9 r [] h3' aoK;have a2:=US d (i+1) h aoJ;refine⟨by simp;omega,λq hq=>?_⟩;rcases alu.1 hq with rfl|hq
      .exact⟨by simpa using a1.1,a1.2⟩
      .exact a2.2 q hq
theorem KP(s:List UInt8):(fa s).length<=3*s.length:=PV _ _ _
theorem aiZ{key:Bool}{a:Ava}(h1:a.1.length<=32)(h2:a.2.length<=4096):(avT key a).length<=20000:=by
 have e1:=KP a.2;have e2:=KP (bH a.2);have e3:=rr a.2;have e4:(af a.1).length=a.1.length:=by simp[af]
 unfold avT;split;simp;omega;simp;omega
theorem VD{B:Nat}{sep:List UInt8}:∀xs:List (List UInt8),(∀x∈xs,x.length<=B)->(Lib.join xs sep).length<=xs.length*(B+sep.length)
 |[],_=>by simp[Lib.join]
 |[x],h=>by have:=h x aoK;simp[Lib.join,List.intercalate];omega
 | x::y::l,h=>by
   have h1:=VD (sep:=sep) (y::l) λz hz=>h z (amB _ hz)
   have h2:=h x aoK;have e:Lib.join (x::y::l) sep=x++(sep++Lib.join (y::l) sep):=(by simp[Lib.join,List.intercalate]);rw[e];simp only[alJ,alA,anA]at h1⊢;omega
theorem Zu{key:Bool}{r:Rdn}(h0:r.length<=8)(h1:∀a∈r,a.1.length<=32)(h2:∀a∈r,a.2.length<=4096):(dG key r).length<=200000:=by
 have key1:∀xs:List (List UInt8),xs.length<=8->(∀x∈xs,x.length<=20000)->(Lib.join xs [43]).length<=200000:=λxs a b=>by have c:=VD (sep:=[43]) xs b;have d:xs.length*(20000+[(43:UInt8)].length)<=8*(20000+1):=amw _ a;omega
 have hm:∀x∈r.map (avT key),x.length<=20000:=λx hx=>by obtain⟨a,ha,rfl⟩:=alt.1 hx;exact aiZ (h1 a ha) (h2 a ha)
 unfold dG;split;refine key1 _ (by rw[Xd];simpa using h0) λx hx=>hm x ?_
 exact(anK (r.map (avT key)) _).mem_iff.1 hx;exact key1 _ (by simpa using h0) hm
theorem Zl{key:Bool}{d:List Rdn}(h0:d.length<=32)(h1:∀r∈d,(dG key r).length<=200000):(eK key d).length<=10000000:=by
 have c:=VD (sep:=[44]) (B:=200000) (d.map (dG key)) λx hx=>by obtain⟨r,hr,rfl⟩:=alt.1 hx;exact h1 r hr
 have e:(d.map (dG key)).length*(200000+[(44:UInt8)].length)<=32*(200000+1):=amw _ (by simpa using h0);unfold eK;omega
def prS(d:List Rdn):List UInt8×Int:=if mI 0 d≠0 then([],mI 0 d)else if RR d=true then([],5)else if 4096<(eK false d).length then([],5)else(eK false d,0)
def ug(p:List UInt8×Int):AV:=.tup [.str p.1,.int .i64 p.2]
def Vs(d:List Rdn):List UInt8×Int:=if(prS d).2≠0 then([],(prS d).2)else(eK true d,0)
def Kb(s:List UInt8):List UInt8×Int:=if(xh s).2≠0 then([],(xh s).2)else Vs (xh s).1
theorem aij{d:List Rdn}{cap:Option Nat}(hn:d.length<=1100000)(hr:∀r∈d,r.length<=1100000)(h:K (ug (prS d)) L):
  alo 177 [.sl (d.map cL) d.length cap] L K:=by
 have hat:=hid (λk=>@Pi d k);unfold prS ug at h;refine aln W0 ?_;refine aiT hn hr ?_;by_cases hc:mI 0 d=0;rotate_left;rw[if_pos hc]at h;replace h:=hid h;refine aoR ?_;exact aa h.o;rw[if_neg (by simpa using hc)]at h;obtain⟨hd32,hd8⟩:=US d 0 hc aoJ;rw[hc];replace hd8:=hid hd8;replace h:=hid h;clear hr hn hc;refine aoR ?_;refine ah (λn T' L'=>∃(i:Nat) (c:Int) (Z:List Blk),n=d.length-i/\i<=d.length/\Hid (RR (d.take i)=false/\0<=c/\c<=8*i)/\T'=[(18,.int .i64 (i:Int)),(17,.int .i64 d.length),(16,.sl (d.map cL) d.length cap),(5,.int .i64 c),(0,.sl (d.map cL) d.length cap)]/\L'=L++Z) aoN ⟨0,0,[],rfl,alw _,hid ⟨rfl,aoJ,aoJ⟩,rfl,aoK⟩ ?_;rintro _ _ _ ⟨i,c,X,rfl,hi,hI,rfl,rfl⟩;by_cases hlt:i<d.length;have g1:(i:Int)<(d.length:Int):=aoJ;have g2:=alm i aoJ;have e2:=hat.o i hlt;have hrm:d.getD i []∈d:=by rw[alR,alH hlt];exact amu _
 obtain⟨r,hri⟩:=alj (d.getD i []);have htk:d.take (i+1)=d.take i++[r]:=by rw[alN hlt,<- hri];simp[hlt]
 rw[hri]at e2 hrm;have hr8:=(hd8.o r hrm).1;have bad:J9 r=true->K (.tup [.str [],.int .i64 5]) L:=λe=>by have h':=h.o;rw[if_pos (show RR d=true from anb.2 ⟨r,hrm,e⟩)]at h';exact h'
 replace bad:=hid bad;replace htk:=hid htk;clear hri hrm;refine wk ?_;refine ah (λn T' L'=>∃(k:Nat) (c':Int) (Z:List Blk),n=r.length-k/\k<=r.length/\X.length<=Z.length/\Hid (J9 (r.take k)=false/\c'=c+k)/\T'=[(24,.int .i64 (k:Int)),(23,.int .i64 r.length),(22,cL r),(18,.int .i64 (i:Int)),(17,.int .i64 d.length),(16,.sl (d.map cL) d.length cap),(5,.int .i64 c'),(0,.sl (d.map cL) d.length cap)]/\L'=L++Z) aoN ⟨0,c,X,rfl,alw _,alr _,hid ⟨rfl,aoJ⟩,rfl,rfl⟩ ?_;rintro _ _ _ ⟨k,c',Z,rfl,hk,hXZ,hJ,rfl,rfl⟩;replace hXZ:=hid hXZ;by_cases hkl:k<r.length;have g3:(k:Int)<(r.length:Int):=aoJ;have g4:=alm k aoJ;have g5:IntKind.i64.wrap (c'+1)=c'+1:=by obtain⟨_,z1,z2⟩:=hI.o;have:=hJ.o.2;exact ad aoJ aoJ
 have e3:=gy hkl;have e4:k*2+2<=(bb r).length:=by rw[dW];omega
 obtain⟨⟨ty,va⟩,ha⟩:∃a,r.getD k ([],[])=a:=⟨_,rfl⟩;have ham:(ty,va)∈r:=by rw[<- ha];simp[hkl]
 have htk2:r.take (k+1)=r.take k++[(ty,va)]:=by rw[alN hkl,<- ha];simp[hkl]
 rw[ha]at e3;simp only[sD]at e3;have KI:4096<va.length->J9 r=true:=λe=>anb.2 ⟨_,ham,by simpa using e⟩
 replace KI:=hid KI;replace htk2:=hid htk2;clear ha ham;by_cases hlv:(4096:Int)<(va.length:Int);have h':=hid (bad.o (KI.o aoJ));refine wk ?_;exact ab rfl h'.o;refine wk ?_;refine aoO aoJ (CutL (b:=?_)) ⟨k+1,c'+1,_,rfl,hkl,?_,hid ⟨?_,by have:=hJ.o.2;omega⟩,rfl,rfl⟩;have:=hXZ.o;simp;omega;have:=hXZ.o;simp;omega;rw[htk2.o,J9,aoh,show(r.take k).any _=J9 (r.take k)from rfl,hJ.o.1];simp;omega;have hke:k=r.length:=aoJ;subst hke;have g3:¬(r.length:Int)<(r.length:Int):=aoJ;have hlr:=hJ.o.1;rw[alF]at hlr;replace hlr:=hid hlr;refine wk ?_;refine aoO aoJ aoM ⟨i+1,c',_,rfl,hlt,hid ⟨?_,?_,?_⟩,rfl,rfl⟩;rw[htk.o,RR,aoh,show(d.take i).any _=RR (d.take i)from rfl,hI.o.1];simp[hlr.o];obtain⟨_,z1,z2⟩:=hI.o;have:=hJ.o.2;omega;obtain⟨_,z1,z2⟩:=hI.o;have:=hJ.o.2;omega;have hke:i=d.length:=aoJ;subst hke;have g1:¬(d.length:Int)<(d.length:Int):=aoJ;have hld:=hI.o.1;rw[alF]at hld;have h':=h.o;rw[if_neg (by rw[hld];simp)]at h';have hv:∀r∈d,∀a∈r,a.2.length<=4096:=λr hr a ha=>by have h1:=ane.1 hld r hr;have h1':J9 r=false:=(by simpa using h1);unfold J9 at h1';have h2:=ane.1 h1' a ha;simpa using h2
 have hrl:∀r∈d,(dG false r).length<=200000:=λr hr=>Zu (hd8.o r hr).1 (hd8.o r hr).2 (hv r hr)
 have htl:=Zl aoJ hrl;replace h':=hid h';clear hld;replace hv:=hid hv;replace hrl:=hid hrl;refine wk ?_;refine ahT aoJ (λr hr=>⟨by have:=(hd8.o r hr).1;omega,λa ha=>⟨by have:=(hd8.o r hr).2 a ha;omega,by have:=hv.o r hr a ha;omega⟩⟩) (λr hr=>by have:=hrl.o r hr;omega) aoJ ?_;by_cases hlg:4096<(eK false d).length;have k1:(4096:Int)<((eK false d).length:Int):=aoJ;have h2:=h'.o;rw[if_pos hlg]at h2;replace h2:=hid h2;clear hlg;refine aoR ?_;exact ab rfl h2.o;have k1:¬(4096:Int)<((eK false d).length:Int):=aoJ;have h2:=h'.o;rw[if_neg hlg]at h2;replace h2:=hid h2;clear hlg;refine aoR ?_;exact ab rfl h2.o
theorem afD{d:List Rdn}(h:(prS d).2=0):d.length<=32/\∀r∈d,r.length<=8/\∀a∈r,a.1.length<=32/\a.2.length<=4096:=by
 unfold prS at h;split at h;rename_i hc;exact absurd h hc;rename_i hc;split at h;cases h;rename_i hl;have h0:mI 0 d=0:=by simpa using hc
 obtain⟨h1,h2⟩:=US d 0 h0 aoJ;have hld:RR d=false:=by simpa using hl
 refine⟨aoJ,λr hr=>⟨(h2 r hr).1,λa ha=>⟨(h2 r hr).2 a ha,?_⟩⟩⟩;have k1:=ane.1 hld r hr;have k1':J9 r=false:=by simpa using k1
 unfold J9 at k1';have k2:=ane.1 k1' a ha;simpa using k2
theorem ajN{d:List Rdn}{cap:Option Nat}(hn:d.length<=1100000)(hr:∀r∈d,r.length<=1100000)(h:K (ug (Vs d)) L):
  alo 140 [.sl (d.map cL) d.length cap] L K:=by
 unfold Vs ug at h;refine aln Y0 ?_;refine aij hn hr ?_;unfold ug;obtain⟨⟨ps,pe⟩,hp⟩:∃p,prS d=p:=⟨_,rfl⟩;rw[hp]at h⊢;simp only at h⊢;by_cases h0:pe=0;subst h0;obtain⟨q1,q2⟩:=afD (by rw[hp]);rw[if_neg aoK]at h;have hrl:∀r∈d,(dG true r).length<=200000:=λr hr=>Zu (q2 r hr).1 (λa ha=>((q2 r hr).2 a ha).1) (λa ha=>((q2 r hr).2 a ha).2)
 have htl:=Zl aoJ hrl;replace h:=hid h;replace q2:=hid q2;replace hrl:=hid hrl;clear hp hr;refine aoR ?_;refine ahS aoJ (λr hr=>⟨by have:=(q2.o r hr).1;omega,λa ha=>⟨by have:=((q2.o r hr).2 a ha).1;omega,by have:=((q2.o r hr).2 a ha).2;omega⟩⟩) (λr hr=>by have:=hrl.o r hr;omega) aoJ ?_;refine aoR ?_;exact aa h.o;rw[if_pos h0]at h;replace h:=hid h;clear hp hr;refine aoR ?_;exact aa h.o
theorem Yt:∀(f:Nat) (out:List Rdn) (now:Rdn) (s:List UInt8),out.length<=32->now.length<=8->(∀r∈out,r.length<=8)->(sA f out now s).1.length<=33/\∀r∈(sA f out now s).1,r.length<=8
 |0,_,_,_,_,_,_=>by simp[sA]
 | f+1,out,now,s,h1,h2,h3=>by
   rw[sA];split
   .simp
   rename_i hlim;have hrow:∀t v:List UInt8,(now++[(t,v)]).length<=8:=λt v=>by simp;omega
   have hout:∀t v:List UInt8,∀r∈out++[now++[(t,v)]],r.length<=8:=λt v r hr=>by
    rcases alv.1 hr with h|h
    .exact h3 r h
    .rw[alM.1 h];exact hrow t v
   split
   .simp
   split
   .simp
   split
   .simp
   split
   .simp
   split
   .simp
   split
   .exact⟨by simp;omega,hout _ _⟩
   split
   .exact Yt f _ _ _ (by simp;omega) aoK (hout _ _)
   .exact Yt f _ _ _ h1 (hrow _ _) h3
theorem acA(s:List UInt8):(xh s).1.length<=33/\∀r∈(xh s).1,r.length<=8:=by unfold xh;split;simp;split;simp;exact Yt _ _ _ _ aoK aoK aoK
theorem ajk{s:List UInt8}(h:K (ug (Kb s)) L):alo 100 [.str s] L K:=by unfold Kb at h;refine aln aaE ?_;refine aik ?_;obtain⟨q1,q2⟩:=acA s;obtain⟨⟨pd,pe⟩,hp⟩:∃p,xh s=p:=⟨_,rfl⟩;rw[hp]at h q1 q2⊢;simp only[abf]at h q1 q2⊢;clear hp;by_cases h0:pe=0;subst h0;rw[if_neg aoK]at h;replace h:=hid h;replace q2:=hid q2;refine aoR ?_;refine ajN aoJ (λr hr=>by have:=q2.o r hr;omega) ?_;have h':=h.o;unfold ug at h'⊢;replace h':=hid h';refine aoR ?_;exact aa h'.o;rw[if_pos h0]at h;unfold ug at h;replace h:=hid h;clear q1 q2;refine aoR ?_;exact aa h.o
end Go.Proofs.YtcmfcpjnhephaaaGreatDoor.Av
set_option maxRecDepth 100000
namespace Go.Proofs.YtcmfcpjnhephaaaGreatDoor.Av
open Go
def sR:LSO:=[A4 1 0,Ae 2]
def sQ:LSO:=[Ac 10 1 1,Aw 11 10,AC 12 11 15,Aa 13 12,.grp none 13 false
 [AD 14 13 1 1,Cf 15 13 14 14,og 16 13 false (.bin .neq (tm 15) (.av (.int .u8 90)))]
 17 (tm 16)]
def sP:LSO:=[Ae 2]
def sO:LSO:=[Ac 18 1 1,o1 19 (.slS (tm 18) none (some (iv 14))),o1 20 (.s2b (tm 19)),Am 21 20,Ab 22 0]
def sN:LSO:=[Ak 23 22 21]
def sM:LSO:=[Ao 24 1 20 22,Ac 25 1 24,Aa 4 25]
def sL:LSO:=[Aa 26 4,o1 27 (.bin .lss (tm 26) (.av (.int .u8 48))),Aa 28 27,.grp none 28 false
 [Ah 29 28 4,og 30 28 false (.bin .gtr (tm 29) (.av (.int .u8 57)))]
 31 (tm 30)]
def sK:LSO:=[Ae 2]
def sJ:LSO:=[Ag 32 22 1,Aa 22 32]
def sI:LSO:=[o1 33 (.mkfn 141 [(tm 1)]),Aa 5 33]
def rO:LSO:=[Aa 34 5,BK 35 34 0,o1 36 (.bin .mul (tm 35) (iv 100)),Aa 37 5,BK 38 37 2,AO 39 36 38,Aa 40 5,BK 41 40 4,Aa 42 5,BK 43 42 6,Aa 6 39,Aa 7 41,Aa 8 43]
def rN:LSO:=[Aa 44 7,AF 45 44 1,Aa 46 45,.grp none 46 false
 [Ah 47 46 7,A9 48 46 47 12]
 49 (tm 48),Aa 50 49,.grp none 50 false
 [Ah 51 50 8,BL 52 50 51 1]
 53 (tm 52),Aa 54 53,.grp none 54 false
 [Ah 55 54 5,Cg 56 54 55 8,A9 57 54 56 23]
 58 (tm 57),Aa 59 58,.grp none 59 false
 [Ah 60 59 5,Cg 61 59 60 10,A9 62 59 61 59]
 63 (tm 62),Aa 64 63,.grp none 64 false
 [Ah 65 64 5,Cg 66 64 65 12,A9 67 64 66 59]
 68 (tm 67)]
def rM:LSO:=[Ae 2]
def rL:LSO:=[Aa 69 7,Bn 70 69 1,o1 71 (.iaddrA 12 1 (.av (.gptr 2 0)) (tm 70)),Ac 72 1 71,Aa 9 72]
def rK:LSO:=[Aa 73 7,An 74 73 2,Aa 75 74,.grp none 75 true
 [Af 76 75 6,BM 77 75 76 4,AZ 78 75 77 0,Af 79 75 78,.grp (some (75,true)) 79 true
 [Af 80 79 6,BM 81 79 80 100,B5 82 79 81 0]
 83 (tm 82),Af 84 75 83,.grp (some (75,true)) 84 false
 [Ah 85 84 6,og 86 84 false (.bin .rem (tm 85) (iv 400)),AE 87 84 86 0]
 88 (tm 87)]
 89 (tm 88)]
def rJ:LSO:=[Aa 90 9,Ag 91 90 1,Aa 9 91]
def rI:LSO:=[Aa 92 8,Aa 93 9,o1 94 (.bin .leq (tm 92) (tm 93)),Aa 2 94]
def qt:aQ:=⟨95,(aoC sR [] (.seq (aoC sQ Cz (aoE 17 (.sreg sP []))) (.seq (aoC sO CR (aoF 0 (aoC sN [] (.seq (aoG 23 0) (.seq (.block 1 (aoC sM Cx (aoC sL Cy (aoE 31 (.sreg sK []))))) (.sreg sJ Cw)))))) (aoC sI Cw (aoC rO [true,true,true,false,false,false,false,false,false,false,false,false,false] (.seq (aoC rN CG (aoE 68 (.sreg rM []))) (aoC rL Cz (.seq (aoC rK Cy (aoD 89 (.sreg rJ Cx) .skip)) (aoC rI Cy .ret))))))))),[(.tmp 2)]⟩
attribute [push_cast] sR sQ sP sO sN sM sL sK sJ sI rO rN rM rL rK rJ rI
theorem PB:aoH 101=aoI qt:=aoL
def qD:LSO:=[Ab 3 0]
def qC:LSO:=[Ac 4 1 1,Aa 5 0,AB 6 4 5,BN 7 6,Bm 8 7,o1 9 (.bin .mul (tm 8) (iv 10)),Ac 10 1 1,Aa 11 0,Ag 12 11 1,AB 13 10 12,BN 14 13,Bm 15 14,AO 16 9 15,
 Aa 3 16]
def my:aQ:=⟨17,(aoC qD [] (.seq (.sdreg qC [(.read 0 0),.pure,(.read 0 0),.pure,.pure,.pure,(.read 0 0),.pure,.pure,(.read 0 0),.pure,.pure] [true,false,false,false,false,false,false,false,false,false,false,false,false,false]) .ret)),[(.tmp 3)]⟩
attribute [push_cast] qD qC
theorem Kq:aoH 141=aoI my:=aoL
def sH:LSO:=[Ab 2 0,Ae 3]
def sG:LSO:=[Aa 7 0,o1 8 (.call 137 [(tm 7),(iv 10),(iv 64)]),Aa 6 8,Aq 9 6,Au 10 6,Aa 4 9,Aa 5 10]
def sF:LSO:=[Aa 11 4,Aa 12 5,o1 13 (.eqk false .iface (tm 12) (.av .nilif)),Aa 14 13,.grp none 14 true
 [Af 15 14 4,og 16 14 true (.call 138 [(tm 15),(iv 10)]),Af 17 14 0,Ch 18 14 16 17]
 19 (tm 18),Aa 2 11,Aa 3 19]
def qq:aQ:=⟨20,(aoC sH [] (aoC sG CL (aoC sF CL .ret))),[(.tmp 2),(.tmp 3)]⟩
attribute [push_cast] sH sG sF
theorem PA:aoH 99=aoI qq:=aoL
def sT:LSO:=[Ae 2]
def sS:LSO:=[Aa 3 0,o1 4 (.bin .geq (tm 3) (.av (.int .i32 128))),Aa 2 4]
def qu:aQ:=⟨5,(aoC sT [] (aoC sS Cx .ret)),[(.tmp 2)]⟩
attribute [push_cast] sT sS
theorem PC:aoH 98=aoI qu:=aoL
def mS:LSO:=[Ab 4 0]
def mR:LSO:=[Aa 5 0,Aa 6 1,o1 7 (.call 136 [(tm 5),(tm 6),(.av (.bool true))]),Aa 4 7]
def gW:aQ:=⟨8,(aoC mS [] (aoC mR Cy .ret)),[(.tmp 4)]⟩
attribute [push_cast] mS mR
theorem yf:aoH 97=aoI gW:=aoL
def mQ:LSO:=[Ab 6 0]
def mP:LSO:=[Aa 9 0,o1 10 (.rangeS (tm 9))]
def mO:LSO:=[o1 11 (.nextS (tm 10)),Aq 12 11]
def mN:LSO:=[Au 13 11,Bl 14 11,Aa 7 13,Aa 8 14]
def mM:LSO:=[Aa 15 1,Aa 16 8,Bt 17 15 16,Aa 18 2,o1 19 (.eqk false .bool (tm 17) (tm 18))]
def mL:LSO:=[Aa 20 7,Aa 6 20]
def mK:LSO:=[Ab 6 (-1)]
def gV:aQ:=⟨21,(aoC mQ [] (.seq (aoC mP Cw (aoF 0 (aoC mO [] (.seq (aoG 12 0) (.block 1 (aoC mN CH (aoC mM Cz (aoE 19 (.sreg mL Cw))))))))) (aoC mK [] .ret))),[(.tmp 6)]⟩
attribute [push_cast] mQ mP mO mN mM mL mK
theorem ye:aoH 136=aoI gV:=aoL
def M9:LSO:=[Ae 2]
def M8:LSO:=[Aa 7 0,Aw 8 7,A3 9 8 0]
def M7:LSO:=[Aa 10 0,B6 11 10 0,Bm 12 11,Aa 3 12]
def M6:LSO:=[Ab 4 1]
def M5:LSO:=[Aa 13 3,Bg 14 13 240]
def M4:LSO:=[Ab 4 4]
def M3:LSO:=[Aa 15 3,Bn 16 15 240,Aa 3 16]
def M2:LSO:=[Aa 17 3,Bg 18 17 224]
def M1:LSO:=[Ab 4 3]
def M0:LSO:=[Aa 19 3,Bn 20 19 224,Aa 3 20]
def HH:LSO:=[Aa 21 3,Bg 22 21 192]
def HG:LSO:=[Ab 4 2]
def HF:LSO:=[Aa 23 3,Bn 24 23 192,Aa 3 24]
def HE:LSO:=[Aa 25 3,Bg 26 25 128]
def HD:LSO:=[Ae 2]
def HC:LSO:=[Aa 27 0,Aw 28 27,Aa 29 4,Ak 30 28 29]
def HB:LSO:=[Ae 2]
def HA:LSO:=[Ab 5 1]
def Hz:LSO:=[Aa 31 5,Aa 32 4,Ak 33 31 32]
def Hy:LSO:=[Aa 36 0,Aa 37 5,AB 38 36 37,Bm 39 38,Aa 6 39]
def Hx:LSO:=[Aa 40 6,AF 41 40 128,Aa 42 41,.grp none 42 false
 [Ah 43 42 6,BO 44 42 43 192]
 45 (tm 44)]
def Hw:LSO:=[Ae 2]
def Hv:LSO:=[Aa 46 3,o1 47 (.bin .mul (tm 46) (iv 64)),Aa 48 6,AO 49 47 48,Bn 50 49 128,Aa 3 50]
def Hu:LSO:=[Aa 34 5,Ag 35 34 1,Aa 5 35]
def Ht:LSO:=[Aa 51 4,An 52 51 2,Aa 53 52,.grp none 53 true
 [Af 54 53 3,B7 55 53 54 128]
 56 (tm 55),Aa 57 56,.grp none 57 false
 [Ah 58 57 4,AE 59 57 58 3,Ah 60 57 59,.grp (some (57,false)) 60 true
 [Af 61 60 3,B7 62 60 61 2048]
 63 (tm 62)]
 64 (tm 63),Aa 65 64,.grp none 65 false
 [Ah 66 65 4,AE 67 65 66 4,Ah 68 65 67,.grp (some (65,false)) 68 true
 [Af 69 68 3,B7 70 68 69 65536]
 71 (tm 70)]
 72 (tm 71),Aa 73 72,.grp none 73 false
 [Ah 74 73 3,A9 75 73 74 1114111]
 76 (tm 75),Aa 77 76,.grp none 77 false
 [Ah 78 77 3,BO 79 77 78 55296,Ah 80 77 79,.grp (some (77,false)) 80 true
 [Af 81 80 3,B7 82 80 81 57344]
 83 (tm 82)]
 84 (tm 83)]
def Hs:LSO:=[Ae 2]
def Hr:LSO:=[Aa 85 0,Aa 86 4,BP 87 85 86,Aa 0 87]
def Hq:LSO:=[Az 2]
def Kw:aQ:=⟨88,(aoC M9 [] (.seq (aoF 0 (.seq (aoC M8 Cx (aoG 9 0)) (.block 1 (aoC M7 Cy (aoC M6 [] (.seq (aoC M5 Cw (aoD 14 (aoC M4 [] (.sreg M3 Cx)) (aoC M2 Cw (aoD 18 (aoC M1 [] (.sreg M0 Cx)) (aoC HH Cw (aoD 22 (aoC HG [] (.sreg HF Cx)) (aoC HE Cw (aoE 26 (.sreg HD []))))))))) (.seq (aoC HC Cy (aoE 30 (.sreg HB []))) (.seq (aoC HA [] (aoF 2 (.seq (aoC Hz Cx (aoG 33 2)) (.seq (.block 3 (aoC Hy Cz (.seq (aoC Hx Cy (aoE 45 (.sreg Hw []))) (.sreg Hv C0)))) (.sreg Hu Cx))))) (.seq (aoC Ht CG (aoE 84 (.sreg Hs []))) (.sreg Hr Cy)))))))))) (aoC Hq [] .ret))),[(.tmp 2)]⟩
attribute [push_cast] M9 M8 M7 M6 M5 M4 M3 M2 M1 M0 HH HG HF HE HD HC HB HA Hz Hy Hx Hw Hv Hu Ht Hs Hr Hq
theorem Wd:aoH 89=aoI Kw:=aoL
def vA:LSO:=[Ae 2]
def vz:LSO:=[Ab 3 0]
def vy:LSO:=[Aa 4 3,Aa 5 0,Aw 6 5,Ak 7 4 6]
def vx:LSO:=[Aa 10 0,Aa 11 3,AB 12 10 11,o1 13 (.bin .lss (tm 12) (.av (.int .u8 48))),Aa 14 13,.grp none 14 false
 [Ah 15 14 0,Ah 16 14 3,Bu 17 14 15 16,og 18 14 false (.bin .gtr (tm 17) (.av (.int .u8 57)))]
 19 (tm 18)]
def vw:LSO:=[Ae 2]
def vv:LSO:=[Aa 8 3,Ag 9 8 1,Aa 3 9]
def vu:LSO:=[Aa 20 0,Aw 21 20,A3 22 21 0,Aa 2 22]
def sq:aQ:=⟨23,(aoC vA [] (.seq (aoC vz [] (aoF 0 (.seq (aoC vy Cy (aoG 7 0)) (.seq (.block 1 (aoC vx C0 (aoE 19 (.sreg vw [])))) (.sreg vv Cx))))) (aoC vu Cy .ret))),[(.tmp 2)]⟩
attribute [push_cast] vA vz vy vx vw vv vu
theorem Sk:aoH 130=aoI sq:=aoL
def vi:LSO:=[Ae 2]
def vh:LSO:=[Aa 4 0,o1 5 (.bin .eql (tm 4) (.av (.str [48])))]
def vg:LSO:=[Az 2]
def vf:LSO:=[o1 3 (.mv (.av (.str [57,50,50,51,51,55,50,48,51,54,56,53,52,55,55,53,56,48,55])))]
def ve:LSO:=[Aa 6 0,Aw 7 6,A3 8 7 0,Aa 9 8,.grp none 9 true
 [Af 10 9 0,og 11 9 true (.idxS (tm 10) (iv 0)),og 12 9 true (.bin .eql (tm 11) (.av (.int .u8 45)))]
 13 (tm 12)]
def vd:LSO:=[Aa 14 0,o1 15 (.slS (tm 14) (some (iv 1)) none),Aa 0 15]
def vc:LSO:=[o1 3 (.mv (.av (.str [57,50,50,51,51,55,50,48,51,54,56,53,52,55,55,53,56,48,56])))]
def vb:LSO:=[Aa 16 0,Ai 17 130 16,Aa 18 17,.grp none 18 true
 [Af 19 18 0,og 20 18 true (.idxS (tm 19) (iv 0)),og 21 18 true (.bin .neq (tm 20) (.av (.int .u8 48)))]
 22 (tm 21),Aa 23 22,.grp none 23 true
 [Af 24 23 0,BQ 25 23 24,B7 26 23 25 19,Af 27 23 26,.grp (some (23,true)) 27 false
 [Ah 28 27 0,Bv 29 27 28,AE 30 27 29 19,Ah 31 27 30,.grp (some (27,false)) 31 true
 [Af 32 31 0,Af 33 31 3,og 34 31 true (.bin .leq (tm 32) (tm 33))]
 35 (tm 34)]
 36 (tm 35)]
 37 (tm 36),Aa 2 37]
def sj:aQ:=⟨38,(aoC vi [] (.seq (aoC vh Cw (aoE 5 (.sreg vg []))) (aoC vf [] (.seq (aoC ve Cz (aoD 13 (aoC vd Cx (.sreg vc [])) .skip)) (aoC vb C2 .ret))))),[(.tmp 2)]⟩
attribute [push_cast] vi vh vg vf ve vd vc vb
theorem Si:aoH 91=aoI sj:=aoL
def Nh:LSO:=[Ab 2 0]
def Ng:LSO:=[Ab 3 0]
def Nf:LSO:=[Ab 4 0]
def Nd:LSO:=[Aa 5 4,Aa 6 0,Aw 7 6,Ak 8 5 7]
def Nc:LSO:=[Aa 11 3,o1 12 (.bin .mul (iv 10) (tm 11)),Aa 13 0,Aa 14 4,AB 15 13 14,BN 16 15,Bm 17 16,AO 18 12 17,Aa 3 18]
def Nb:LSO:=[Aa 9 4,Ag 10 9 1,Aa 4 10]
def Na:LSO:=[Aa 19 3,Aa 2 19]
def Kx:aQ:=⟨20,(aoC Nh [] (aoC Ng [] (.seq (aoC Nf [] (aoF 0 (.seq (aoC Nd Cy (aoG 8 0)) (.seq (.block 1 (.sreg Nc CJ)) (.sreg Nb Cx))))) (aoC Na Cw .ret)))),[(.tmp 2)]⟩
attribute [push_cast] Nh Ng Nf Nd Nc Nb Na
theorem We:aoH 133=aoI Kx:=aoL
def vt:LSO:=[Ae 2]
def vr:LSO:=[Aa 7 0,Aw 8 7,AC 9 8 15,Aa 10 9,.grp none 10 false
 [Ah 11 10 0,og 12 10 false (.slS (tm 11) none (some (iv 14))),AP 13 10 130 12,Bc 14 10 13]
 15 (tm 14),Aa 16 15,.grp none 16 false
 [Ah 17 16 0,Cf 18 16 17 14,og 19 16 false (.bin .neq (tm 18) (.av (.int .u8 90)))]
 20 (tm 19)]
def vq:LSO:=[Ae 2]
def vp:LSO:=[Aa 21 0,o1 22 (.slS (tm 21) none (some (iv 4))),Ai 23 133 22,Aa 24 0,o1 25 (.slS (tm 24) (some (iv 4)) (some (iv 6))),Ai 26 133 25,Aa 27 0,
 o1 28 (.slS (tm 27) (some (iv 6)) (some (iv 8))),Ai 29 133 28,Aa 3 23,Aa 4 26,Aa 5 29]
def vo:LSO:=[Aa 30 4,AF 31 30 1,Aa 32 31,.grp none 32 false
 [Ah 33 32 4,A9 34 32 33 12]
 35 (tm 34),Aa 36 35,.grp none 36 false
 [Ah 37 36 5,BL 38 36 37 1]
 39 (tm 38),Aa 40 39,.grp none 40 false
 [Ah 41 40 0,Ci 42 40 41 8 10,AP 43 40 133 42,A9 44 40 43 23]
 45 (tm 44),Aa 46 45,.grp none 46 false
 [Ah 47 46 0,Ci 48 46 47 10 12,AP 49 46 133 48,A9 50 46 49 59]
 51 (tm 50),Aa 52 51,.grp none 52 false
 [Ah 53 52 0,Ci 54 52 53 12 14,AP 55 52 133 54,A9 56 52 55 59]
 57 (tm 56)]
def vn:LSO:=[Ae 2]
def vm:LSO:=[Ab 6 31]
def vl:LSO:=[Aa 58 4,An 59 58 4,Aa 60 59,.grp none 60 false
 [Ah 61 60 4,AE 62 60 61 6]
 63 (tm 62),Aa 64 63,.grp none 64 false
 [Ah 65 64 4,AE 66 64 65 9]
 67 (tm 66),Aa 68 67,.grp none 68 false
 [Ah 69 68 4,AE 70 68 69 11]
 71 (tm 70)]
def vk:LSO:=[Ab 6 30]
def vj:LSO:=[Aa 72 4,An 73 72 2]
def sX:LSO:=[Ab 6 28]
def sW:LSO:=[Aa 74 3,BR 75 74 400,An 76 75 0,Aa 77 76,.grp none 77 false
 [Ah 78 77 3,og 79 77 false (.bin .rem (tm 78) (iv 4)),AE 80 77 79 0,Ah 81 77 80,.grp (some (77,false)) 81 true
 [Af 82 81 3,BM 83 81 82 100,B5 84 81 83 0]
 85 (tm 84)]
 86 (tm 85)]
def sV:LSO:=[Ab 6 29]
def sU:LSO:=[Aa 87 5,Aa 88 6,o1 89 (.bin .leq (tm 87) (tm 88)),Aa 2 89]
def sn:aQ:=⟨90,(aoC vt [] (.seq (aoC vr C2 (aoE 20 (.sreg vq []))) (.seq (.sdreg vp [.pure,(.read 0 0),(.read 0 0),.pure,(.read 0 0),(.read 0 0),.pure,(.read 0 0)] CZ) (.seq (aoC vo CG (aoE 57 (.sreg vn []))) (aoC vm [] (.seq (aoC vl C4 (aoD 71 (.sreg vk []) .skip)) (.seq (aoC vj Cw (aoD 73 (aoC sX [] (aoC sW Cz (aoD 86 (.sreg sV []) .skip))) .skip)) (aoC sU Cy .ret)))))))),[(.tmp 2)]⟩
attribute [push_cast] vt vr vq vp vo vn vm vl vk vj sX sW sV sU
theorem Sj:aoH 93=aoI sn:=aoL
def HR:LSO:=[As 4,Ae 5]
def HQ:LSO:=[Aa 9 1,Aw 10 9,A3 11 10 4096]
def HP:LSO:=[As 4,Ae 5]
def HO:LSO:=[Aa 12 0]
def HN:LSO:=[An 14 12 1,Aa 13 14]
def HM:LSO:=[Aa 15 1,Aw 16 15,A3 17 16 0,Aa 18 17,.grp none 18 true
 [Af 19 18 1,AL 20 18 89 19]
 21 (tm 20)]
def HL:LSO:=[Aa 22 1,Ai 23 90 22,Aa 4 23,Az 5]
def HK:LSO:=[An 25 12 2,Aa 24 25]
def HJ:LSO:=[Aa 26 1,Aw 27 26,A3 28 27 0,Aa 29 28,.grp none 29 true
 [Af 30 29 1,AL 31 29 89 30]
 32 (tm 31)]
def HI:LSO:=[Aa 33 1,Aa 4 33,Az 5]
def Dg:LSO:=[An 35 12 3,Aa 34 35]
def Df:LSO:=[Ab 6 0]
def De:LSO:=[Aa 36 6,Aa 37 1,Aw 38 37,Ak 39 36 38]
def At:LSO:=[Aa 42 1,Aa 43 6,AB 44 42 43,o1 45 (.bin .geq (tm 44) (.av (.int .u8 128)))]
def z8:LSO:=[As 4,Ae 5]
def z7:LSO:=[Aa 40 6,Ag 41 40 1,Aa 6 41]
def z6:LSO:=[Aa 46 1,Ai 47 90 46,Aa 4 47,Az 5]
def zZ:LSO:=[An 49 12 4,Aa 48 49]
def zY:LSO:=[Aa 50 1,Ai 51 91 50]
def zX:LSO:=[Aa 52 1,Aa 4 52,Az 5]
def zW:LSO:=[An 54 12 5,Aa 53 54]
def zV:LSO:=[Aa 55 1,o1 56 (.bin .eql (tm 55) (.av (.str [84,82,85,69]))),Aa 57 56,.grp none 57 false
 [Ah 58 57 1,og 59 57 false (.bin .eql (tm 58) (.av (.str [70,65,76,83,69])))]
 60 (tm 59)]
def zU:LSO:=[Aa 61 1,Aa 4 61,Az 5]
def zT:LSO:=[An 63 12 6,Aa 62 63]
def zS:LSO:=[Aa 65 1,Ai 66 92 65,Aa 64 66,Aq 67 64,Au 68 64,Aa 7 67,Aa 8 68]
def zR:LSO:=[Aa 69 8,An 70 69 0]
def zQ:LSO:=[Aa 71 7,Aa 4 71,Az 5]
def zP:LSO:=[An 73 12 7,Aa 72 73]
def zO:LSO:=[Aa 74 1,Aa 4 74,Az 5]
def zN:LSO:=[An 76 12 8,Aa 75 76]
def zM:LSO:=[Aa 77 1,Ai 78 93 77]
def zL:LSO:=[Aa 79 1,Aa 4 79,Az 5]
def zK:LSO:=[As 4,Ae 5]
def yl:aQ:=⟨80,(aoC HR [] (.seq (aoC HQ Cx (aoE 11 (.sreg HP []))) (.seq (aoC HO [] (.block 0 (aoC HN Cw (aoD 13 (aoC HM Cz (aoE 21 (.sreg HL CH))) (aoC HK Cw (aoD 24 (aoC HJ Cz (aoE 32 (.sreg HI C3))) (aoC Dg Cw (aoD 34 (.seq (aoC Df [] (aoF 1 (.seq (aoC De Cy (aoG 39 1)) (.seq (.block 2 (aoC At Cy (aoE 45 (.sreg z8 [])))) (.sreg z7 Cx))))) (aoC z6 CH .ret)) (aoC zZ Cw (aoD 48 (aoC zY Cw (aoE 51 (.sreg zX C3))) (aoC zW Cw (aoD 53 (aoC zV Cy (aoE 60 (.sreg zU C3))) (aoC zT Cw (aoD 62 (aoC zS CL (aoC zR Cw (aoE 70 (.sreg zQ C3)))) (aoC zP Cw (aoD 72 (aoC zO C3 .ret) (aoC zN Cw (aoD 75 (aoC zM Cw (aoE 78 (.sreg zL C3))) .skip)))))))))))))))))) (aoC zK [] .ret)))),[(.tmp 4),(.tmp 5)]⟩
attribute [push_cast] HR HQ HP HO HN HM HL HK HJ HI Dg Df De At z8 z7 z6 zZ zY zX zW zV zU zT zS zR zQ zP zO zN zM zL zK
theorem Ux:aoH 45=aoI yl:=aoL
def yL:LSO:=[As 4,Ae 5]
def yK:LSO:=[Aa 10 1,Aw 11 10,A3 12 11 4096]
def yJ:LSO:=[As 4,Ae 5]
def yI:LSO:=[Aa 13 1,Aa 6 13,Ae 7]
def yH:LSO:=[Aa 14 0]
def yG:LSO:=[An 16 14 1,Aa 15 16]
def yF:LSO:=[Aa 17 1,Ai 18 95 17,Aa 19 1,Cj 20 19,Aa 21 20,.grp none 21 true
 [Af 22 21 1,AL 23 21 96 22]
 24 (tm 23),Aa 6 18,Aa 7 24]
def yE:LSO:=[An 26 14 2,Aa 25 26]
def yD:LSO:=[Aa 27 1,Cj 28 27,Aa 29 28,.grp none 29 true
 [Af 30 29 1,AL 31 29 96 30]
 32 (tm 31),Aa 7 32]
def yC:LSO:=[An 34 14 3,Aa 33 34]
def uN:LSO:=[Aa 35 1,Ai 36 95 35,Aa 37 1,o1 38 (.call 97 [(tm 37),(.av (.func 98 []))]),AF 39 38 0,Aa 6 36,Aa 7 39]
def uM:LSO:=[An 41 14 4,Aa 40 41]
def uL:LSO:=[Aa 43 1,Ai 44 99 43,Aa 42 44,Aq 45 42,Au 46 42,Aa 7 46]
def uK:LSO:=[An 48 14 5,Aa 47 48]
def uJ:LSO:=[Aa 49 1,o1 50 (.bin .eql (tm 49) (.av (.str [84,82,85,69]))),Aa 51 50,.grp none 51 false
 [Ah 52 51 1,og 53 51 false (.bin .eql (tm 52) (.av (.str [70,65,76,83,69])))]
 54 (tm 53),Aa 7 54]
def uI:LSO:=[An 56 14 6,Aa 55 56]
def uH:LSO:=[Aa 58 1,Ai 59 100 58,Aa 57 59,Aq 60 57,Au 61 57,Aa 8 60,Aa 9 61]
def uG:LSO:=[Aa 62 8,Aa 63 9,An 64 63 0,Aa 6 62,Aa 7 64]
def uF:LSO:=[An 66 14 7,Aa 65 66]
def uE:LSO:=[Az 7]
def uD:LSO:=[An 68 14 8,Aa 67 68]
def uC:LSO:=[Aa 69 1,Ai 70 101 69,Aa 7 70]
def uB:LSO:=[Aa 71 7,Ay 72 71]
def uA:LSO:=[As 4,Ae 5]
def uz:LSO:=[Aa 73 6,Aa 4 73,Az 5]
def tM:aQ:=⟨74,(aoC yL [] (.seq (aoC yK Cx (aoE 12 (.sreg yJ []))) (aoC yI C3 (.seq (aoC yH [] (.block 0 (aoC yG Cw (aoD 15 (.sreg yF CE) (aoC yE Cw (aoD 25 (.sreg yD Cz) (aoC yC Cw (aoD 33 (.sreg uN CL) (aoC uM Cw (aoD 40 (.sreg uL C0) (aoC uK Cw (aoD 47 (.sreg uJ Cz) (aoC uI Cw (aoD 55 (aoC uH CL (.sreg uG C6)) (aoC uF Cw (aoD 65 (.sreg uE []) (aoC uD Cw (aoD 67 (.sreg uC Cx) .skip)))))))))))))))))) (.seq (aoC uB Cw (aoE 72 (.sreg uA []))) (aoC uz C3 .ret)))))),[(.tmp 4),(.tmp 5)]⟩
attribute [push_cast] yL yK yJ yI yH yG yF yE yD yC uN uM uL uK uJ uI uH uG uF uE uD uC uB uA uz
theorem SY:aoH 48=aoI tM:=aoL
def uy:LSO:=[Ab 6 0,Ae 7]
def ux:LSO:=[Aa 17 0,Aa 18 1,Ar 19 48 17 18,Aa 16 19,Aq 20 16,Au 21 16,Aa 8 20,Aa 9 21]
def uw:LSO:=[Aa 23 0,Aa 24 2,Ar 25 48 23 24,Aa 22 25,Aq 26 22,Au 27 22,Aa 10 26,Aa 11 27]
def uv:LSO:=[Aa 28 9,Ay 29 28,Aa 30 29,.grp none 30 false
 [Ah 31 30 11,Bc 32 30 31]
 33 (tm 32),Aa 34 33,.grp none 34 false
 [Ah 35 34 0,AE 36 34 35 5]
 37 (tm 36),Aa 38 37,.grp none 38 false
 [Ah 39 38 0,AE 40 38 39 6]
 41 (tm 40),Aa 42 41,.grp none 42 false
 [Ah 43 42 0,AE 44 42 43 7]
 45 (tm 44)]
def uu:LSO:=[Ab 6 0,Ae 7]
def ut:LSO:=[Aa 46 0,An 47 46 4]
def ur:LSO:=[Aa 49 8,Ai 50 99 49,Aa 48 50,Aq 51 48,Au 52 48,Aa 12 51,Aa 13 52]
def uq:LSO:=[Aa 54 10,Ai 55 99 54,Aa 53 55,Aq 56 53,Au 57 53,Aa 14 56,Aa 15 57]
def uo:LSO:=[Aa 58 12,Aa 59 14,Ar 60 125 58 59,Aa 6 60,Az 7]
def um:LSO:=[Aa 61 8,Aa 62 10,Ar 63 126 61 62,Aa 6 63,Az 7]
def sg:aQ:=⟨64,(aoC uy [] (aoC ux CE (aoC uw CE (.seq (aoC uv CK (aoE 45 (.sreg uu []))) (.seq (aoC ut Cw (aoD 47 (aoC ur CV (aoC uq CV (aoC uo C6 .ret))) .skip)) (aoC um C6 .ret)))))),[(.tmp 6),(.tmp 7)]⟩
attribute [push_cast] uy ux uw uv uu ut ur uq uo um
theorem Sg:aoH 80=aoI sg:=aoL
attribute [push_cast] my qu gW gV Kw sq Kx sg
variable {L:List Blk}{K:alp}
set_option maxHeartbeats 8000000
set_option maxRecDepth 100000
theorem acB{x:Int}{L:List Blk}{K:alp}(h:K (.bool (decide ((128:Int)<=x))) L):alo 98 [.int .i32 x] L K:=by replace h:=hid h;refine aln PC ?_;exact aa h.o
def Ln(s:List UInt8):Bool:=s.all λc=>decide (c.toNat<128)
theorem ajZ{s:List UInt8}(hs:s.length<=1100000)(hno:Ln s=true->K (.int .i64 (-1)) L)(hyes:∀k:Nat,Ln s=false->K (.int .i64 (k:Int)) L):
  alo 136 [.str s,.func 98 [],.bool true] L K:=by
 replace hno:=hid hno;replace hyes:=hid hyes;refine aln ye ?_;refine ah (λn T' L'=>∃p,n=s.length-p/\p<=s.length/\Hid (Ln (s.take p)=true)/\T'=[(10,.ptr L.length 0),(1,.func 98 []),(2,.bool true)]/\L'=L++[.siter s p]) aoN ⟨0,rfl,alw _,hid rfl,rfl,rfl⟩ ?_;rintro _ _ _ ⟨p,rfl,hp,hall,rfl,rfl⟩;by_cases hlt:p<s.length;obtain⟨c,hc⟩:=alj (s.getD p 0);have hr:=c.toNat_lt;have htk:s.take (p+1)=s.take p++[c]:=by rw[alN hlt,<- hc];simp[hlt]
 have hnext:Ln (s.take (p+1))=decide (c.toNat<128):=by have:=hall.o;unfold Ln at this⊢;rw[htk,an1,this];simp
 by_cases ha:c.toNat<128;have hd:=VZ hlt (by rw[hc];exact ha);rw[hc]at hd;have w0:IntKind.i32.wrap (c.toNat:Int)=(c.toNat:Int):=UX aoJ aoJ;have f1:¬(128:Int)<=(c.toNat:Int):=aoJ;replace hnext:=hid (hnext.trans (decide_eq_true ha));clear hc ha htk;have kk1:=@hid _ @acB;refine wk ?_;exact aoO aoJ aoN ⟨p+1,rfl,hlt,hnext,rfl,rfl⟩;have hh:=X3 hlt (by rw[hc];omega);obtain⟨⟨x,wd⟩,hd⟩:∃q,Up s p=q:=⟨_,rfl⟩;rw[hd]at hh;simp only at hh;have f1:(128:Int)<=(x:Int):=aoJ;have hbad:Ln s=false:=by rw[<- am1];intro e;have hm:c∈s:=(by rw[<- hc];simp[hlt]);have:=alC.1 e c hm;simp at this;omega
 have h':=hid (hyes.o p hbad);clear hc ha htk hnext hbad;have kk1:=@hid _ @acB;refine wk ?_;exact ab rfl h'.o;have hke:p=s.length:=aoJ;subst hke;have h1:=hall.o;rw[alF]at h1;have h':=hid (hno.o h1);clear h1;refine wk ?_;exact ab rfl h'.o
theorem agp{s:List UInt8}(hs:s.length<=1100000)(hno:Ln s=true->K (.int .i64 (-1)) L)(hyes:∀k:Nat,Ln s=false->K (.int .i64 (k:Int)) L):
  alo 97 [.str s,.func 98 []] L K:=by
 replace hno:=hid hno;replace hyes:=hid hyes;refine aln yf ?_;refine ajZ hs (λe=>?_) (λk e=>?_);have h':=hid (hno.o e);refine aoR ?_;exact aa h'.o;have h':=hid (hyes.o k e);refine aoR ?_;exact aa h'.o
def dig(v:List UInt8)(i:Nat):Nat:=(v.getD i 0).toNat-48
def two(v:List UInt8)(i:Nat):Nat:=10*dig v i+dig v (i+1)
def fy(c:UInt8):Bool:=decide (48<=c.toNat)&&decide (c.toNat<=57)
def agb(y:Nat):Bool:=decide (y%4=0) && !decide (y%100=0) ||decide (y%400=0)
def YT(m:Nat):Nat:=if m=2 then 28 else if m=4\/m=6\/m=9\/m=11 then 30 else 31
def XA(y m:Nat):Nat:=if m=2/\agb y=true then YT m+1 else YT m
def aau(v:List UInt8):Bool:=decide ((1<=two v 4/\two v 4<=12)/\1<=two v 6/\two v 8<=23/\two v 10<=59/\two v 12<=59)&&decide (two v 6<=XA (two v 0*100+two v 2) (two v 4))
def J6(v:List UInt8):Bool:=decide (v.length=15)&&decide (v.getD 14 0=90)&&(v.take 14).all fy&&aau v
theorem aky{v:List UInt8}{i p:Nat}{z:Int}(hz:z=(i:Int))(hi:i+1<v.length)(hv:v.length<=1000)(h1:fy (v.getD i 0)=true)(h2:fy (v.getD (i+1) 0)=true)(hL:L[p]?=some (.cells [.str v]))(h:K (.int .i64 (two v i:Nat)) L):
  alo 141 [.int .i64 z,.ptr p 0] L K:=by
 subst hz;unfold two dig at h;obtain⟨a,ha⟩:=alj (v.getD i 0);obtain⟨b,hb⟩:=alj (v.getD (i+1) 0);rw[ha]at h1 h;rw[hb]at h2 h;simp only[fy,alx,decide_eq_true_eq]at h1 h2;obtain⟨x,hx⟩:∃x:Nat,a.toNat=48+x:=⟨a.toNat-48,aoJ⟩;obtain⟨y,hy⟩:∃y:Nat,b.toNat=48+y:=⟨b.toNat-48,aoJ⟩;have hx9:x<=9:=aoJ;have hy9:y<=9:=aoJ;rw[show 10*(a.toNat-48)+(b.toNat-48)=10*x+y by omega]at h;have hxa:(a.toNat:Int)=48+(x:Int):=aoJ;have hyb:(b.toNat:Int)=48+(y:Int):=aoJ;have g1:(i:Int)<(v.length:Int):=aoJ;have g2:=alm i aoJ;have g3:(i:Int)+1<(v.length:Int):=aoJ;have g4:((i:Int)+1).toNat=i+1:=aoJ;have g5:(0:Int)<=(i:Int)+1:=aoJ;have w1:IntKind.u8.wrap (48+(x:Int)-48)=(x:Int):=by rw[cV aoJ aoJ];omega
 have w2:IntKind.u8.wrap (48+(y:Int)-48)=(y:Int):=by rw[cV aoJ aoJ];omega
 have w3:IntKind.i64.wrap (x:Int)=(x:Int):=ad aoJ aoJ;have w4:IntKind.i64.wrap (y:Int)=(y:Int):=ad aoJ aoJ;have w5:IntKind.i64.wrap ((x:Int)*10)=(x:Int)*10:=ad aoJ aoJ;have w6:IntKind.i64.wrap ((x:Int)*10+(y:Int))=(x:Int)*10+(y:Int):=ad aoJ aoJ;have hfin:K (.int .i64 ((x:Int)*10+(y:Int))) L:=by rwa[show((10*x+y:Nat):Int)=(x:Int)*10+(y:Int)by omega]at h
 replace hfin:=hid hfin;clear h h1 h2 hx hy;refine aln Kq ?_;exact aa hfin.o
theorem aiQ{m:Nat}(h1:1<=m)(h2:m<=12){l:List AV}(hl:eG 2=some l):l.getD (m-1) .undef=.int .i64 (YT m:Nat)/\l.length=12:=by
 have e:eG 2=some [.int .i64 31,.int .i64 28,.int .i64 31,.int .i64 30,.int .i64 31,.int .i64 30,.int .i64 31,.int .i64 31,.int .i64 30,.int .i64 31,.int .i64 30,.int .i64 31]:=by rfl
 rw[e]at hl;cases hl;have:m=1\/m=2\/m=3\/m=4\/m=5\/m=6\/m=7\/m=8\/m=9\/m=10\/m=11\/m=12:=aoJ;rcases this with rfl|rfl|rfl|rfl|rfl|rfl|rfl|rfl|rfl|rfl|rfl|rfl<;>exact⟨rfl,rfl⟩
theorem jN{v:List UInt8}{i:Nat}(h1:fy (v.getD i 0)=true)(h2:fy (v.getD (i+1) 0)=true):two v i<=99:=by simp only[fy,alx,decide_eq_true_eq]at h1 h2;unfold two dig;omega
theorem ZO{v:List UInt8}(hv:v.length<=1100000)(h:K (.bool (J6 v)) L):alo 101 [.str v] L K:=by
 have no:J6 v=false->K (.bool false) L:=λe=>by rw[<- e];exact h
 replace no:=hid no;replace h:=hid h;refine ac PB (by simp[qt]) ?_;simp only[qt,am];by_cases h15:v.length=15;rotate_left;have f1:¬(v.length:Int)=15:=aoJ;have h':=hid (no.o (by simp[J6,h15]));clear h15;refine wk ?_;exact ab rfl h'.o;have f1:(v.length:Int)=15:=aoJ;obtain⟨z,hz⟩:=alj (v.getD 14 0);by_cases h90:z=90;rotate_left;have f2:¬(z.toNat:Int)=90:=λe=>h90 ((bz z 90).1 e)
 have h':=hid (no.o (by simp[J6,<- hz]at h90⊢;simp[h90]));clear h90;refine wk ?_;exact ab rfl h'.o;have f2:(z.toNat:Int)=90:=by rw[h90];rfl
 obtain⟨w,hw⟩:=alj (v.take 14);have hwl:w.length=14:=by rw[<- hw];simp[h15]
 have f3:(14:Int)<=(v.length:Int):=aoJ;have hul:(u8s w).length=14:=by simp[u8s,hwl]
 have hdall:=hid (show w.all fy=false->K (.bool false) L from λe=>no.o (by simp[J6,hw,e]));replace hw:=hid hw;have hw':v.take 14=w:=hw.o;have f4:(0:Int)<=14:=aoJ;refine wk ?_;refine ah (λn T' L'=>∃i:Nat,n=14-i/\i<=14/\Hid ((w.take i).all fy=true)/\T'=[(22,.int .i64 (i:Int)),(21,.int .i64 14),(20,.sl (u8s w) 14 none),(1,.ptr L.length 0)]/\L'=L++[.cells [.str v]]) aoN ⟨0,rfl,alw _,hid rfl,rfl,rfl⟩ ?_;rintro _ _ _ ⟨i,rfl,hi,hall,rfl,rfl⟩;by_cases hlt:i<14
 .have g1:(i:Int)<14:=aoJ;have g2:=alm i aoJ;obtain⟨c,hc⟩:=alj (w.getD i 0);have g3:(u8s w).getD i .undef=.int .u8 c.toNat:=(by rw[<- hc];simp[u8s,show i<w.length by omega]);have hm:c∈w:=(by rw[<- hc];simp[show i<w.length by omega]);have htk:w.take (i+1)=w.take i++[c]:=(by rw[alN aoJ,<- hc];simp[show i<w.length by omega]);have bad:=hid λ(e:fy c=false)=>hdall.o (List.all_eq_false.2 ⟨c,hm,by rw[e];simp⟩)
  have good:=hid λ(e:fy c=true)=>show(w.take (i+1)).all fy=true by rw[htk,an1,hall.o];simp[e]
  clear hc hm htk hw' h15 hwl
  repeat' first
   |refine bd ?_
   | (first|refine aV aoL ?_|refine aB aoL ?_|refine aE ?_|refine bJ ?_|refine bg (fun _=>?_)|refine ax ?_|refine aY ?_)
     refine sm ?_
   | (first|refine aO aoL ?_|refine aP ?_|refine aD ?_|refine aW ?_|refine bq (aw ?_))
     refine sl ?_
   |exact bh
   |first|apply bj|apply aR|apply bm|apply aS|apply bo|apply aT
   |refine aH ?_
   |refine aC ?_
   |first|refine aF rfl ?_|refine aG rfl ?_|refine ao rfl ?_ ?_|refine aJ rfl (λ_=>?_) (λ_=>?_)|refine aI rfl (λ_=>?_) (λ_=>?_)
   |((first|refine an (λ_=>?_) (λ_=>?_)|refine au (λ_=>?_) (λ_=>?_))<;>try refine sm ?_)
   |refine And.intro trivial ?_
   |refine And.intro aoJ ?_
   |refine aL rfl (λ_=>?_) (λ_=>?_)
   |refine And.intro ?_ ?_
  rename_i hx;refine ab rfl (bad.o ?_);simp only[fy,anJ,decide_eq_false_iff_not];omega;rename_i hx;refine aoO aoJ aoM ⟨i+1,rfl,aoJ,hid (good.o ?_),rfl,rfl⟩;simp only[fy,alx,decide_eq_true_eq];omega
 have hke:i=14:=aoJ;subst hke;have g1:¬((14:Nat):Int)<14:=aoJ;have hda:=hall.o;rw[ams aoJ]at hda;have hdv:∀i,i<14->fy (v.getD i 0)=true:=λi hi=>by refine alC.1 hda _ ?_;rw[<- hw.o];have:v.getD i 0=(v.take 14)[i]'(by simp;omega):=(by simp[show i<v.length by omega]);rw[this];exact amu _
 have hdate:J6 v=aau v:=by simp only[J6,h15,hz,h90,hw.o,hda];simp
 have ct:∀i:Nat,i+1<14->∀(z:Int) (K:AV->List Blk->Prop),z=(i:Int)->K (.int .i64 (two v i:Nat)) (L++[.cells [.str v]])->alo 141 [.int .i64 z,.ptr L.length 0] (L++[.cells [.str v]]) K:=λi hi z K hz h =>
  aky hz aoJ aoJ (hdv i aoJ) (hdv (i+1) hi) (rn _ _ _) h
 have b0:=jN (hdv 0 aoJ) (hdv 1 aoJ);have b2:=jN (hdv 2 aoJ) (hdv 3 aoJ);have b4:=jN (hdv 4 aoJ) (hdv 5 aoJ);have b6:=jN (hdv 6 aoJ) (hdv 7 aoJ);have b8:=jN (hdv 8 aoJ) (hdv 9 aoJ);have b10:=jN (hdv 10 aoJ) (hdv 11 aoJ);have b12:=jN (hdv 12 aoJ) (hdv 13 aoJ);have kk1:=@hid _ (λ{K:alp}=>ct 0 aoJ 0 K rfl);have kk2:=@hid _ (λ{K:alp}=>ct 2 aoJ 2 K rfl);have kk3:=@hid _ (λ{K:alp}=>ct 4 aoJ 4 K rfl);have kk4:=@hid _ (λ{K:alp}=>ct 6 aoJ 6 K rfl);have kk5:=@hid _ (λ{K:alp}=>ct 8 aoJ 8 K rfl);have kk6:=@hid _ (λ{K:alp}=>ct 10 aoJ 10 K rfl);have kk7:=@hid _ (λ{K:alp}=>ct 12 aoJ 12 K rfl);have hfin:=h.o;rw[hdate]at hfin;unfold aau at hfin;obtain⟨Y,hY⟩:=alj (two v 0);obtain⟨Y2,hY2⟩:=alj (two v 2);obtain⟨M,hM⟩:=alj (two v 4);obtain⟨D,hD⟩:=alj (two v 6);obtain⟨H,hH⟩:=alj (two v 8);obtain⟨I,hI⟩:=alj (two v 10);obtain⟨S,hS⟩:=alj (two v 12);rw[hY]at b0 hfin kk1;rw[hY2]at b2 hfin kk2;rw[hM]at b4 hfin kk3;rw[hD]at b6 hfin kk4;rw[hH]at b8 hfin kk5;rw[hI]at b10 hfin kk6;rw[hS]at b12 hfin kk7;clear hY hY2 hM hD hH hI hS ct hdate hdv hda hall hw' hw hdall h15 hwl hul hi hlt f1 f2 f3 f4 hv h90 hz no h;have w1:IntKind.i64.wrap ((Y:Int)*100)=(Y:Int)*100:=ad aoJ aoJ;have w2:IntKind.i64.wrap ((Y:Int)*100+(Y2:Int))=(Y:Int)*100+(Y2:Int):=ad aoJ aoJ;have hbad:¬((1<=M/\M<=12)/\1<=D/\H<=23/\I<=59/\S<=59)->K (.bool false) L:=λe=>by rw[decide_eq_false e]at hfin;simpa using hfin
 replace hbad:=hid hbad;replace hfin:=hid hfin;by_cases m1:(M:Int)<1;refine wk ?_;exact ab rfl (hbad.o aoJ);by_cases m2:(12:Int)<(M:Int);refine wk ?_;exact ab rfl (hbad.o aoJ);by_cases m3:(D:Int)<1;refine wk ?_;exact ab rfl (hbad.o aoJ);by_cases m4:(23:Int)<(H:Int);refine wk ?_;exact ab rfl (hbad.o aoJ);by_cases m5:(59:Int)<(I:Int);refine wk ?_;exact ab rfl (hbad.o aoJ);by_cases m6:(59:Int)<(S:Int);refine wk ?_;exact ab rfl (hbad.o aoJ);have hgood:=hid (show decide (D<=XA (Y*100+Y2) M)=true\/decide (D<=XA (Y*100+Y2) M)=false by cases decide (D<=XA (Y*100+Y2) M)<;>simp);have hfin2:=hfin.o;rw[show decide ((1<=M/\M<=12)/\1<=D/\H<=23/\I<=59/\S<=59)=true by simp;omega,aml]at hfin2;unfold XA agb at hfin2;obtain⟨dn,hdn⟩:=alj (YT M);have hdb:dn<=31:=by rw[<- hdn];unfold YT;split<;>(try split)<;>omega
 obtain⟨r4,hr4⟩:=alj ((Y*100+Y2)%4);obtain⟨r100,hr100⟩:=alj ((Y*100+Y2)%100);obtain⟨r400,hr400⟩:=alj ((Y*100+Y2)%400);rw[hr4,hr100,hr400,hdn]at hfin2;have t4:Int.tmod ((Y:Int)*100+(Y2:Int)) 4=(r4:Int):=by rw[ant aoJ];omega
 have t100:Int.tmod ((Y:Int)*100+(Y2:Int)) 100=(r100:Int):=by rw[ant aoJ];omega
 have t400:Int.tmod ((Y:Int)*100+(Y2:Int)) 400=(r400:Int):=by rw[ant aoJ];omega
 have x1:IntKind.i64.wrap ((M:Int)-1)=(M:Int)-1:=ad aoJ aoJ;have x2:((M:Int)-1).toNat=M-1:=aoJ;have x3:(0:Int)<=(M:Int)-1:=aoJ;have x4:(M:Int)-1<12:=aoJ;obtain⟨x5,x6⟩:=aiQ (m:=M) aoJ aoJ aal;rw[hdn]at x5;have x7:=alm dn aoJ;replace hfin2:=hid hfin2;clear hr4 hr100 hr400 hdn hgood
 repeat' first
  |refine bd ?_
  | (first|refine aV aoL ?_|refine aB aoL ?_|refine aE ?_|refine bJ ?_|refine bg (fun _=>?_)|refine ax ?_|refine aY ?_|refine kk1.o ?_|refine kk2.o ?_|refine kk3.o ?_|refine kk4.o ?_|refine kk5.o ?_|refine kk6.o ?_|refine kk7.o ?_|refine aU (kk1.o ⟨rfl,rfl⟩) (kk1.o ⟨rfl,rfl⟩) ?_|refine aU (kk2.o ⟨rfl,rfl⟩) (kk2.o ⟨rfl,rfl⟩) ?_|refine aU (kk3.o ⟨rfl,rfl⟩) (kk3.o ⟨rfl,rfl⟩) ?_|refine aU (kk4.o ⟨rfl,rfl⟩) (kk4.o ⟨rfl,rfl⟩) ?_|refine aU (kk5.o ⟨rfl,rfl⟩) (kk5.o ⟨rfl,rfl⟩) ?_|refine aU (kk6.o ⟨rfl,rfl⟩) (kk6.o ⟨rfl,rfl⟩) ?_|refine aU (kk7.o ⟨rfl,rfl⟩) (kk7.o ⟨rfl,rfl⟩) ?_|refine aA (kk1.o ⟨rfl,rfl⟩) ?_|refine aA (kk2.o ⟨rfl,rfl⟩) ?_|refine aA (kk3.o ⟨rfl,rfl⟩) ?_|refine aA (kk4.o ⟨rfl,rfl⟩) ?_|refine aA (kk5.o ⟨rfl,rfl⟩) ?_|refine aA (kk6.o ⟨rfl,rfl⟩) ?_|refine aA (kk7.o ⟨rfl,rfl⟩) ?_)
    refine sm ?_
  | (first|refine aO aoL ?_|refine aP ?_|refine aD ?_|refine aW ?_|refine bq (aw ?_))
    refine sl ?_
  |exact bh
  |first|apply bj|apply aR|apply bm|apply aS|apply bo|apply aT
  |refine aH ?_
  |refine aC ?_
  |first|refine aF rfl ?_|refine aG rfl ?_|refine ao rfl ?_ ?_|refine aJ rfl (λ_=>?_) (λ_=>?_)|refine aI rfl (λ_=>?_) (λ_=>?_)
  |((first|refine an (λ_=>?_) (λ_=>?_)|refine au (λ_=>?_) (λ_=>?_))<;>try refine sm ?_)
  |refine And.intro trivial ?_
  |refine And.intro aoJ ?_
  |refine aL rfl (λ_=>?_) (λ_=>?_)
  |refine And.intro ?_ ?_
 rename_i hx;refine ab rfl ?_;have e:=hfin2.o;rw[if_pos ⟨aoJ,by simp;omega⟩]at e;rwa[show decide (D<=dn+1)=decide ((D:Int)<=(dn:Int)+1)by simp only[decide_eq_decide];omega]at e;rename_i hx;refine ab rfl ?_;have e:=hfin2.o;rw[if_neg (λ⟨e1,e2⟩=>hx ⟨aoJ,by simp at e2;omega⟩)]at e;rwa[show decide (D<=dn)=decide ((D:Int)<=(dn:Int))by simp only[decide_eq_decide];omega]at e
end Go.Proofs.YtcmfcpjnhephaaaGreatDoor.Av
set_option maxRecDepth 100000
namespace Go.Proofs.YtcmfcpjnhephaaaGreatDoor.Av
open Go
variable {w w0:World}{S0:SB}{E:Env}{L:List Blk}{l a b v n:List UInt8}{syn:Int}{α:Type}
def rl:LSO:=[Ae 2]
def rk:LSO:=[Aa 3 0,Aa 4 0,BF 5 3 4,Aa 2 5]
def mD:aQ:=⟨6,(aoC rl [] (aoC rk Cy .ret)),[(.tmp 2)]⟩
attribute [push_cast] rl rk
theorem KH:aoH 162=aoI mD:=aoL
def oq:LSO:=[Ab 4 0]
def oo:LSO:=[Aa 7 0,Ai 8 162 7,Aa 5 8]
def om:LSO:=[Aa 9 1,Ai 10 162 9,Aa 6 10]
def ol:LSO:=[Aa 11 5]
def oj:LSO:=[Aa 12 6]
def oi:LSO:=[Ab 4 0]
def oh:LSO:=[Ab 4 (-1)]
def oe:LSO:=[Aa 13 6]
def oc:LSO:=[Ab 4 1]
def oa:LSO:=[Aa 14 0,Aa 15 1,Ak 16 14 15]
def mi:LSO:=[Ab 4 (-1)]
def mh:LSO:=[Aa 17 0,Aa 18 1,o1 19 (.bin .gtr (tm 17) (tm 18))]
def mg:LSO:=[Ab 4 1]
def mf:LSO:=[Ab 4 0]
def gZ:aQ:=⟨20,(aoC oq [] (aoC oo Cx (aoC om Cx (.seq (aoC ol [] (aoD 11 (.seq (aoC oj [] (aoE 12 (.sreg oi []))) (aoC oh [] .ret)) .skip)) (.seq (aoC oe [] (aoE 13 (.sreg oc []))) (.seq (aoC oa Cx (aoE 16 (.sreg mi []))) (.seq (aoC mh Cx (aoE 19 (.sreg mg []))) (aoC mf [] .ret)))))))),[(.tmp 4)]⟩
attribute [push_cast] oq oo om ol oj oi oh oe oc oa mi mh mg mf
theorem yA:aoH 125=aoI gZ:=aoL
def JS:LSO:=[A4 1 0,Ab 2 0]
def JR:LSO:=[o1 3 (.alloc [(.int .i64 0)]),Ap 4 5 1,o1 5 (.call 120 [(tm 3),(tm 4),(iv 1)]),Aa 2 5]
def yy:aQ:=⟨6,(aoC JS [] (aoC JR Cy .ret)),[(.tmp 2)]⟩
attribute [push_cast] JS JR
theorem UH:aoH 76=aoI yy:=aoL
def me:LSO:=[A4 4 1,Ab 6 0]
def md:LSO:=[Aa 10 2,A3 11 10 64]
def mc:LSO:=[Ab 6 6]
def ma:LSO:=[Aa 12 0,Ax 13 12,Ad 14 0 13,Ac 15 1 14,Ag 16 15 1,Ax 17 12,Ad 18 0 17,Aj 1 18 16]
def l9:LSO:=[Aa 19 0,Ax 20 19,Ad 21 0 20,Ac 22 1 21,A3 23 22 1000]
def l8:LSO:=[Ab 6 9]
def l7:LSO:=[Ad 25 0 4,Ac 26 1 25,AF 27 26 0,Aa 28 27,.grp none 28 false
 [AJ 29 28 0 4,AD 30 28 1 29,A9 31 28 30 8]
 32 (tm 31),Aa 24 32]
def l6:LSO:=[Ab 6 24]
def l5:LSO:=[Ad 34 0 4,Ac 35 1 34,An 36 35 2,Aa 37 36,.grp none 37 true
 [AA 38 37 4 4,A6 39 37 1 38,Bo 40 37 39,B5 41 37 40 1]
 42 (tm 41),Aa 33 42]
def l4:LSO:=[Ab 6 2]
def jE:LSO:=[Ad 44 0 4,Ac 45 1 44,o1 46 (.bin .leq (tm 45) (iv 2)),Aa 43 46]
def jD:LSO:=[Ad 47 4 4,Ac 48 1 47,Am 49 48,Ab 50 0]
def jC:LSO:=[Ak 51 50 49]
def jB:LSO:=[Ao 52 5 48 50,Ap 53 5 52,Ba 8,Aj 5 8 53]
def jA:LSO:=[Aa 54 0,Ap 55 5 8,Aa 56 2,Ag 57 56 1,A8 58 120 54 55 57,Aa 9 58]
def jz:LSO:=[Aa 59 9,AC 60 59 0]
def jy:LSO:=[Aa 61 9,Aa 6 61]
def jw:LSO:=[Ag 62 50 1,Aa 50 62]
def jv:LSO:=[Ad 64 1 4,Ac 65 1 64,Ai 66 157 65,Ay 67 66,Aa 63 67]
def ju:LSO:=[Ab 6 20]
def jt:LSO:=[Ad 69 0 4,Ac 70 1 69,An 71 70 4,Aa 72 71,.grp none 72 true
 [AA 73 72 3 4,A6 74 72 1 73,AL 75 72 158 74,Bp 76 72 75]
 77 (tm 76),Aa 68 77]
def jr:LSO:=[Ab 6 4]
def jq:LSO:=[Ab 6 0]
def gw:aQ:=⟨78,(aoC me [] (.seq (aoC md Cw (aoE 11 (.sreg mc []))) (.seq (aoC ma CA (aoC l9 Cz (aoE 23 (.sreg l8 [])))) (.seq (.block 0 (aoC l7 C0 (aoD 24 (aoC l6 [] .ret) (aoC l5 C0 (aoD 33 (aoC l4 [] .ret) (aoC jE Cy (aoD 43 (aoC jD CF (aoF 1 (aoC jC [] (.seq (aoG 51 1) (.seq (.block 2 (aoC jB Cx (aoC jA C0 (aoC jz Cw (aoE 60 (.sreg jy Cw)))))) (.sreg jw Cw)))))) (aoC jv Cz (aoD 63 (aoC ju [] .ret) (aoC jt C0 (aoE 68 (.sreg jr [])))))))))))) (aoC jq [] .ret))))),[(.tmp 6)]⟩
attribute [push_cast] me md mc ma l9 l8 l7 l6 l5 l4 jE jD jC jB jA jz jy jw jv ju jt jr jq
theorem xD:aoH 120=aoI gw:=aoL
def FN:LSO:=[Ae 2]
def FM:LSO:=[Aa 5 0,Am 6 5,Ab 7 0]
def FL:LSO:=[Ak 8 7 6]
def FK:LSO:=[Aa 9 7,Ao 10 2 5 7,Ap 11 2 10,BT 4,Aa 3 9,Aj 2 4 11]
def FJ:LSO:=[Ad 13 1 4,Ac 14 1 13,B8 15 14,Aa 16 15,.grp none 16 false
 [AJ 17 16 0 4,AD 18 16 1 17,BL 19 16 18 0]
 20 (tm 19),Aa 21 20,.grp none 21 false
 [AJ 22 21 0 4,AD 23 21 1 22,A9 24 21 23 2]
 25 (tm 24),Aa 12 25]
def FI:LSO:=[Ae 2]
def FH:LSO:=[Ad 27 0 4,Ac 28 1 27,An 29 28 0,Aa 30 29,.grp none 30 true
 [Af 31 30 3,Cs 32 30 31 0]
 33 (tm 32),Aa 34 33,.grp none 34 false
 [AJ 35 34 0 4,AD 36 34 1 35,AE 37 34 36 2,Ah 38 34 37,.grp (some (34,false)) 38 true
 [Af 39 38 3,Af 40 38 0,Bo 41 38 40,BS 42 38 41 1,Bx 43 38 39 42]
 44 (tm 43)]
 45 (tm 44),Aa 26 45]
def FG:LSO:=[Ae 2]
def FF:LSO:=[Ag 46 7 1,Aa 7 46]
def FE:LSO:=[Aa 47 0,Am 48 47,A3 49 48 0,Aa 2 49]
def uc:aQ:=⟨50,(aoC FN [] (.seq (aoC FM [] (aoF 0 (aoC FL [] (.seq (aoG 8 0) (.seq (.block 1 (aoC FK C6 (.block 2 (aoC FJ C4 (aoD 12 (aoC FI [] .ret) (aoC FH C4 (aoE 26 (.sreg FG [])))))))) (.sreg FF Cw)))))) (aoC FE Cy .ret))),[(.tmp 2)]⟩
attribute [push_cast] FN FM FL FK FJ FI FH FG FF FE
theorem Tl:aoH 158=aoI uc:=aoL
def yV:LSO:=[Ae 6,Ae 7]
def yU:LSO:=[Aa 15 0,Aa 16 1,Ar 17 48 15 16,Aa 14 17,Aq 18 14,Au 19 14,Aa 8 18,Aa 9 19]
def yT:LSO:=[Aa 20 9,Ay 21 20,Aa 22 21,.grp none 22 false
 [Ah 23 22 0,BU 24 22 23 1,Ah 25 22 24,.grp (some (22,false)) 25 true
 [Af 26 25 0,B5 27 25 26 2]
 28 (tm 27),Ah 29 22 28,.grp (some (22,false)) 29 true
 [Af 30 29 0,B5 31 29 30 3]
 32 (tm 31)]
 33 (tm 32),Aa 34 33,.grp none 34 false
 [Ah 35 34 2,Ct 36 34 4 35,AP 37 34 76 36,BU 38 34 37 0]
 39 (tm 38)]
def yS:LSO:=[Ae 6,Ae 7]
def yR:LSO:=[Aa 40 2,Am 41 40,Ab 42 0]
def yQ:LSO:=[Ak 43 42 41]
def yP:LSO:=[Ao 44 2 40 42,Ap 45 2 44,BT 11,Aj 2 11 45]
def yO:LSO:=[Ad 46 1 11,Ac 47 1 46,Aa 12 47]
def yN:LSO:=[Aa 48 0,AC 49 48 2]
def yM:LSO:=[Aa 50 12,Ai 51 38 50,Aa 12 51]
def uV:LSO:=[Aa 52 8,Aa 53 12,Ar 54 122 52 53,Aa 13 54]
def uU:LSO:=[Ad 56 0 11,Ac 57 1 56,An 58 57 0,Aa 59 58,.grp none 59 true
 [Af 60 59 8,Af 61 59 12,BG 62 59 123 60 61,Bp 63 59 62]
 64 (tm 63),Aa 55 64]
def uT:LSO:=[Ad 65 0 11,Ac 66 1 65,An 67 66 2,Aa 68 67,.grp none 68 true
 [Af 69 68 8,Af 70 68 12,BG 71 68 124 69 70,Bp 72 68 71]
 73 (tm 72),Aa 55 73]
def uS:LSO:=[Aa 74 13,AF 75 74 0,Aa 55 75]
def uR:LSO:=[Ae 6,Az 7]
def uQ:LSO:=[Aa 76 8,Aa 77 13,Aa 78 12,Aw 79 78,AO 80 77 79,BP 81 76 80,Aa 8 81]
def uP:LSO:=[Ag 82 42 1,Aa 42 82]
def uO:LSO:=[Az 6,Az 7]
def tN:aQ:=⟨83,(aoC yV [] (aoC yU CE (.seq (aoC yT C0 (aoE 39 (.sreg yS []))) (.seq (aoC yR [] (aoF 0 (aoC yQ [] (.seq (aoG 43 0) (.seq (.block 1 (aoC yP Cx (aoC yO Cx (.seq (aoC yN Cw (aoD 49 (.sreg yM Cx) .skip)) (aoC uV Cy (.seq (.block 2 (.seq (aoC uU C0 (aoD 55 .skip (aoC uT C0 (aoD 55 .skip (.sreg uS Cx))))) (aoE 55 (.sreg uR [])))) (.sreg uQ C2))))))) (.sreg uP Cw)))))) (aoC uO [] .ret))))),[(.tmp 6),(.tmp 7)]⟩
attribute [push_cast] yV yU yT yS yR yQ yP yO yN yM uV uU uT uS uR uQ uP uO
theorem SZ:aoH 79=aoI tN:=aoL
attribute [push_cast] mD yy gw uc tN
variable {L:List Blk}{K:alp}
set_option maxHeartbeats 8000000
set_option maxRecDepth 100000
theorem afF:eG 6=some (Lib.pow10Tab.map (AV.int .u64)):=by rfl
theorem adG:Tryz.prog.globalNamed "internal/strconv.uint64pow10" = some 6:=aoL
theorem akL{n:Int}(hn:I64 n)(h:K (.str (Lib.itoa n)) L):alo 138 [.int .i64 n,.int .i64 10] L K :=
 cH Tryz.func138 rfl aoL (λw0 S0 E w vs hR hv=>by simp only[VRL,VR]at hv;obtain⟨_,_,rfl,rfl,_,_,rfl,rfl,rfl⟩:=hv;refine(Tryz.strconv_FormatInt_10 n hn.1 hn.2 w (hR.table adG afF (by simp[Lib.pow10Tab]))).mono λe w' ⟨he,k,os,hw⟩=>⟨_,he,by simp[VR],by subst hw;exact sx.of_grow w k os⟩) h
theorem x0{w':World}(h:RowKit.Below w.heap.size w w'):sx w w':=⟨λb hb=>h.block b hb,h.size,h.os,h.tape,h.output⟩
theorem aas(hR:Rel w0 S0 E L w){g:Nat}{t:TypeId}(hp:eG g=some [.iface t .undef]):∃x,w.cell? ⟨g,0,none⟩=some (.iface t x):=by have hm:=x8 hp;obtain⟨v,h1,h2⟩:=(hR.glob.env hm).get (i:=0) (a:=.iface t .undef) rfl;simp only[VR]at h2;obtain⟨x,rfl,_⟩:=h2;exact⟨x,by simpa using hR.mem _ _ _ h1⟩
theorem afI{n:Int}(hl:(l.length:Int)<=1100000)(hp:Lib.parseIntB 64 l=.ok n)(h:K (.tup [.int .i64 n,.nilif]) L):alo 137 [.str l,.int .i64 10,.int .i64 64] L K :=
 cH Tryz.func137 rfl aoL (λw0 S0 E w vs hR hv=>by
  simp only[VRL,VR]at hv;obtain⟨_,_,rfl,rfl,_,_,rfl,rfl,_,_,rfl,rfl,rfl⟩:=hv;refine(Tryz.strconv_ParseInt_10_at64_ok ⟨⟨l⟩⟩ (show l.length<=_ by omega) n hp w).mono λe w' ⟨he,hw⟩=>⟨_,he,by simp[VR,VRL],?_⟩
  rcases hw with rfl|⟨t,rfl⟩;exact sx.refl _;exact x0 (Lib.bytesWorld_below _ _ _)) h
theorem afJ(hl:(l.length:Int)<=1100000)(hp:∀n,Lib.parseIntB 64 l≠.ok n)(h:K (.tup [.int .i64 (Un l),.iface 252 .undef]) L):alo 137 [.str l,.int .i64 10,.int .i64 64] L K :=
 cH Tryz.func137 rfl aoL (λw0 S0 E w vs hR hv=>by
  simp only[VRL,VR]at hv;obtain⟨_,_,rfl,rfl,_,_,rfl,rfl,_,_,rfl,rfl,rfl⟩:=hv
  match hq:Lib.parseIntB 64 l with
  |.ok n=>exact absurd hq (hp n)
  | .syntax =>
    obtain⟨x,hx⟩:=aas hR (g:=4) rfl;refine(Tryz.strconv_ParseInt_10_at64_syntax ⟨⟨l⟩⟩ (show l.length<=_ by omega) hq _ w hx (.inr ⟨_,_,rfl⟩)).mono λe w' ⟨N,he,_,_,hw⟩=>⟨_,he,?_,x0 hw⟩
    have e0:Un l=0:=(by simp[Un,hq]);rw[e0];simp[VR,VRL];exact⟨_,_,⟨rfl,rfl⟩,rfl,_,rfl,_,rfl⟩
  | .range =>
    obtain⟨x,hx⟩:=aas hR (g:=5) rfl;refine(Tryz.strconv_ParseInt_10_at64_range ⟨⟨l⟩⟩ (show l.length<=_ by omega) hq _ w hx (.inr ⟨_,_,rfl⟩)).mono λe w' ⟨N,he,_,_,hw⟩=>⟨_,he,?_,x0 hw⟩
    have e0:Un l=Lib.intSat 64 l:=(by simp[Un,hq]);rw[e0];simp[VR,VRL];exact⟨_,_,⟨rfl,rfl⟩,rfl,_,rfl,_,rfl⟩) h
theorem RN(hl:(l.length:Int)<=1100000)(h:K (.tup [.int .i64 (Un l),.bool (rU l)]) L):alo 99 [.str l] L K:=by
 replace h:=hid h;refine ac PA (by simp[qq]) ?_;simp only[qq,am];by_cases hp:∃n,Lib.parseIntB 64 l=.ok n;obtain⟨n,hp⟩:=hp;have hr:=hid (TZ hp);have e1:=hid (show Un l=n by simp[Un,hp]);have e2:=hid (show rU l=decide (Lib.itoa n=l)by simp[rU,hp]);replace hp:=hid hp;have kk1:=@aoQ _ _ _ _ (afI hl hp.o);have kk2:=@aoQ _ _ _ _ (akL hr.o);refine wk ?_;refine aa ?_;have h:=h.o;rw[e1.o,e2.o]at h;exact h;have hp':=hid (show ∀n,Lib.parseIntB 64 l≠.ok n from λn e=>hp ⟨n,e⟩);have e2:=hid (show rU l=false by unfold rU;split;rename_i n hn;exact absurd ⟨n,hn⟩ hp;rfl)
 clear hp;have kk1:=@aoQ _ _ _ _ (afJ hl hp'.o);refine wk ?_;refine aa ?_;have h:=h.o;rw[e2.o]at h;exact h
theorem SQ{n:Int}{L:List Blk}{K:alp}(h:K (.bool false) L):alo 162 [.int .i64 n] L K:=by replace h:=hid h;refine aln KH ?_;refine aa ?_;exact h.o
def aaz(m n:Int):Int:=if m<n then -1 else if n<m then 1 else 0
theorem aiR{m n:Int}{L:List Blk}{K:alp}(h:K (.int .i64 (aaz m n)) L):alo 125 [.int .i64 m,.int .i64 n] L K:=by replace h:=hid h;refine ac yA (by simp[gZ]) ?_;simp only[gZ,am];by_cases h1:m<n;have e:=hid (show aaz m n=-1 by simp[aaz,h1]);have kk1:=@hid _ @SQ;refine wk ?_;refine aa ?_;have h:=h.o;rw[e.o]at h;exact h;by_cases h2:n<m;have e:=hid (show aaz m n=1 by simp[aaz,h1,h2]);have kk1:=@hid _ @SQ;refine wk ?_;refine aa ?_;have h:=h.o;rw[e.o]at h;exact h;have e:=hid (show aaz m n=0 by simp[aaz,h1,h2]);have kk1:=@hid _ @SQ;refine wk ?_;refine aa ?_;have h:=h.o;rw[e.o]at h;exact h
theorem abT:eG 0=some ((List.range 256).map λc=>AV.int .u8 (Lib.firstT c:Int)):=aoL
theorem aaK:eG 1=some ((List.range 16).flatMap λi=>[AV.int .u8 (Lib.accLo i:Int),AV.int .u8 (Lib.accHi i:Int)]):=aoL
theorem SU(hR:Rel w0 S0 E L w){g i:Nat}{l:List AV}{k:IntKind}{z:Int}(hp:eG g=some l)(hi:l[i]?=some (.int k z)):w.cell? ⟨g,i,none⟩=some (.int k z):=by have hm:=x8 hp;obtain⟨v,h1,h2⟩:=(hR.glob.env hm).get (i:=i) (a:=.int k z) hi;simp only[VR]at h2;subst h2;simpa using hR.mem _ _ _ h1
theorem ac9(hR:Rel w0 S0 E L w):Lib.Utf8Tabs 0 1 w:=by
 refine⟨λc hc=>SU hR abT ?_,λi hi=>⟨SU hR aaK ?_,SU hR aaK ?_⟩⟩;simp[hc];have:∀i:_root_.Fin 16,((List.range 16).flatMap λi=>[AV.int .u8 (Lib.accLo i:Int),AV.int .u8 (Lib.accHi i:Int)])[2*i.val]?=some (.int .u8 (Lib.accLo i.val:Int)):=λi=>by
  match i with
  |⟨0,_⟩|⟨1,_⟩|⟨2,_⟩|⟨3,_⟩|⟨4,_⟩|⟨5,_⟩|⟨6,_⟩|⟨7,_⟩|⟨8,_⟩|⟨9,_⟩|⟨10,_⟩|⟨11,_⟩|⟨12,_⟩|⟨13,_⟩|⟨14,_⟩|⟨15,_⟩=>rfl
  |⟨n+16,h⟩=>omega
 exact this ⟨i,hi⟩;have:∀i:_root_.Fin 16,((List.range 16).flatMap λi=>[AV.int .u8 (Lib.accLo i:Int),AV.int .u8 (Lib.accHi i:Int)])[2*i.val+1]?=some (.int .u8 (Lib.accHi i.val:Int)):=λi=>by
  match i with
  |⟨0,_⟩|⟨1,_⟩|⟨2,_⟩|⟨3,_⟩|⟨4,_⟩|⟨5,_⟩|⟨6,_⟩|⟨7,_⟩|⟨8,_⟩|⟨9,_⟩|⟨10,_⟩|⟨11,_⟩|⟨12,_⟩|⟨13,_⟩|⟨14,_⟩|⟨15,_⟩=>rfl
  |⟨n+16,h⟩=>omega
 exact this ⟨i,hi⟩
theorem KQ(hl:l.length<=1100000)(h:K (.bool (Lib.validD l)) L):alo 96 [.str l] L K :=
 cH Tryz.func96 rfl aoL (λw0 S0 E w vs hR hv=>by simp only[VRL,VR]at hv;obtain⟨_,_,rfl,rfl,rfl⟩:=hv;exact(Any.utf8_ValidString Tryz.lays196 ⟨⟨l⟩⟩ w (show l.length<=_ by omega) (ac9 hR)).mono λe w' ⟨he,hw⟩=>⟨_,he,by simp[VR],x0 hw⟩) h
theorem rG{a b:List UInt8}{L:List Blk}{K:alp}(h:K (.int .i64 (Lib.compareBytes a b)) L):alo 126 [.str a,.str b] L K :=
 cH Tryz.func126 rfl aoL (λw0 S0 E w vs hR hv=>by simp only[VRL,VR]at hv;obtain⟨_,_,rfl,rfl,_,_,rfl,rfl,rfl⟩:=hv;exact(Tryz.strings_Compare ⟨⟨a⟩⟩ ⟨⟨b⟩⟩ w).mono λe w' ⟨he,hw⟩=>⟨_,he,by simp[VR],by subst hw;exact sx.refl _⟩) h
theorem iW(h:K (.bool (Lib.hasPrefix a b)) L):alo 123 [.str a,.str b] L K :=
 cH Tryz.func123 rfl aoL (λw0 S0 E w vs hR hv=>by simp only[VRL,VR]at hv;obtain⟨_,_,rfl,rfl,_,_,rfl,rfl,rfl⟩:=hv;exact(Tryz.strings_HasPrefix ⟨⟨a⟩⟩ ⟨⟨b⟩⟩ w).mono λe w' ⟨he,hw⟩=>⟨_,he,by simp[VR],by subst hw;exact sx.refl _⟩) h
theorem iV(ha:a.length<=1100000)(h:K (.bool (Lib.hasSuffix a b)) L):alo 124 [.str a,.str b] L K :=
 cH Tryz.func124 rfl aoL (λw0 S0 E w vs hR hv=>by simp only[VRL,VR]at hv;obtain⟨_,_,rfl,rfl,_,_,rfl,rfl,rfl⟩:=hv;exact(Tryz.strings_HasSuffix ⟨⟨a⟩⟩ ⟨⟨b⟩⟩ w (show a.length<=_ by omega)).mono λe w' ⟨he,hw⟩=>⟨_,he,by simp[VR],by subst hw;exact sx.refl _⟩) h
theorem oR(ha:a.length<=1100000)(h:K (.int .i64 (Lib.index a b)) L):alo 122 [.str a,.str b] L K :=
 cH Tryz.func122 rfl aoL (λw0 S0 E w vs hR hv=>by simp only[VRL,VR]at hv;obtain⟨_,_,rfl,rfl,_,_,rfl,rfl,rfl⟩:=hv;obtain⟨z,hz⟩:=hR.glob.2 3 (by simp[RM]);exact(Tryz.strings_Index ⟨⟨a⟩⟩ ⟨⟨b⟩⟩ z w (show a.length<_ by omega) (hR.mem _ _ _ hz)).mono λe w' ⟨he,hw⟩=>⟨_,he,by simp[VR],by subst hw;exact sx.refl _⟩) h
abbrev ahk:List UInt8:=[84,82,85,69]
abbrev ab9:List UInt8:=[70,65,76,83,69]
def tA(syn:Int)(v:List UInt8):Option (List UInt8):=
 if syn=1 then(if v=[]then none else if Lib.validD v=true then some (bH v)else none)
 else if syn=2 then(if v=[]then none else if Lib.validD v=true then some v else none)
 else if syn=3 then(if Ln v=true then some (bH v)else none)
 else if syn=4 then(if rU v=true then some v else none)
 else if syn=5 then(if v=ahk\/v=ab9 then some v else none)
 else if syn=6 then(if(Kb v).2=0 then some (Kb v).1 else none)
 else if syn=7 then some v
 else if syn=8 then(if J6 v=true then some v else none)
 else none
def bw(syn:Int)(v:List UInt8):Option (List UInt8):=if 4096<v.length then none else tA syn v
def iC:Option (List UInt8)->AV
 |some n=>.tup [.str n,.bool true]
 |none=>.tup [.str [],.bool false]
theorem eg(h:K (iC (bw syn v)) L):alo 48 [.int .i64 syn,.str v] L K:=by
 unfold bw at h;refine ac SY (by simp[tM]) ?_;simp only[tM,am];by_cases hl:4096<v.length;have f1:(4096:Int)<(v.length:Int):=aoJ;rw[if_pos hl]at h;replace h:=hid h;clear hl;refine wk ?_;exact aa h.o;have f1:¬(4096:Int)<(v.length:Int):=aoJ;rw[if_neg hl]at h;have vl1:v.length<=1100000:=aoJ;have vl2:(v.length:Int)<=100000:=aoJ;have vl3:(v.length:Int)<=1100000:=aoJ;unfold tA at h;clear hl;by_cases s1:syn=1;subst s1;rw[if_pos rfl]at h;by_cases hv:v=[];rw[if_pos hv]at h;replace h:=hid h;subst hv;have kk1:=@aoQ _ _ _ _ (xR vl2);have kk2:=@aoQ _ _ _ _ (KQ vl1);refine wk ?_;exact aa h.o;rw[if_neg hv]at h;cases hd:Lib.validD v with
 | true =>
   rw[hd,if_pos rfl]at h;replace h:=hid h;have kk1:=@aoQ _ _ _ _ (xR vl2);have kk2:=@aoQ _ _ _ _ (KQ vl1);refine wk ?_;exact aa h.o
 | false =>
   rw[hd,if_neg aoK]at h;replace h:=hid h;have kk1:=@aoQ _ _ _ _ (xR vl2);have kk2:=@aoQ _ _ _ _ (KQ vl1);refine wk ?_;exact aa h.o
 rw[if_neg s1]at h;by_cases s2:syn=2;subst s2;rw[if_pos rfl]at h;by_cases hv:v=[];rw[if_pos hv]at h;replace h:=hid h;have kk1:=@aoQ _ _ _ _ (KQ vl1);refine wk ?_;exact aa h.o;rw[if_neg hv]at h;cases hd:Lib.validD v with
 | true =>
   rw[hd,if_pos rfl]at h;replace h:=hid h;have kk1:=@aoQ _ _ _ _ (KQ vl1);refine wk ?_;exact aa h.o
 | false =>
   rw[hd,if_neg aoK]at h;replace h:=hid h;have kk1:=@aoQ _ _ _ _ (KQ vl1);refine wk ?_;exact aa h.o
 rw[if_neg s2]at h;by_cases s3:syn=3;subst s3;rw[if_pos rfl]at h;replace h:=hid h;have kk1:=@aoQ _ _ _ _ (xR vl2);refine wk ?_;refine agp vl1 (λe=>?_) (λk e=>?_);have h':=h.o;rw[if_pos e]at h';replace h':=hid h';refine aoR ?_;exact aa h'.o;have h':=h.o;rw[if_neg (by rw[e];simp)]at h';replace h':=hid h';have k0:¬(k:Int)<0:=aoJ;refine aoR ?_;exact aa h'.o;rw[if_neg s3]at h;by_cases s4:syn=4;subst s4;rw[if_pos rfl]at h;cases hd:rU v with
 | true =>
   rw[hd,if_pos rfl]at h;replace h:=hid h;have kk1:=@aoQ _ _ _ _ (RN vl3);refine wk ?_;exact aa h.o
 | false =>
   rw[hd,if_neg aoK]at h;replace h:=hid h;have kk1:=@aoQ _ _ _ _ (RN vl3);refine wk ?_;exact aa h.o
 rw[if_neg s4]at h;by_cases s5:syn=5;subst s5;rw[if_pos rfl]at h;by_cases t1:v=ahk;rw[if_pos (.inl t1)]at h;replace h:=hid h;have c1:(decide (v=[84,82,85,69]):Bool)=true:=decide_eq_true t1;subst t1;refine wk ?_;exact aa h.o;by_cases t2:v=ab9;rw[if_pos (.inr t2)]at h;replace h:=hid h;subst t2;have t3:¬([70,65,76,83,69]:List UInt8)=[84,82,85,69]:=by decide
 clear t1;refine wk ?_;exact aa h.o;rw[if_neg (λe=>e.elim t1 t2)]at h;replace h:=hid h;refine wk ?_;exact aa h.o;rw[if_neg s5]at h;by_cases s6:syn=6;subst s6;rw[if_pos rfl]at h;obtain⟨⟨k,e⟩,hk⟩:∃p,Kb v=p:=⟨_,rfl⟩;rw[hk]at h;simp only at h;by_cases he:e=0;subst he;rw[if_pos rfl]at h;replace h:=hid h;refine wk ?_;refine ajk ?_;rw[hk];simp only[ug];refine aoR ?_;exact aa h.o;rw[if_neg he]at h;replace h:=hid h;refine wk ?_;refine ajk ?_;rw[hk];simp only[ug];refine aoR ?_;exact aa h.o;rw[if_neg s6]at h;by_cases s7:syn=7;subst s7;rw[if_pos rfl]at h;replace h:=hid h;refine wk ?_;exact aa h.o;rw[if_neg s7]at h;by_cases s8:syn=8;subst s8;rw[if_pos rfl]at h;cases hd:J6 v with
 | true =>
   rw[hd,if_pos rfl]at h;replace h:=hid h;have kk1:=@aoQ _ _ _ _ (ZO vl1);refine wk ?_;exact aa h.o
 | false =>
   rw[hd,if_neg aoK]at h;replace h:=hid h;have kk1:=@aoQ _ _ _ _ (ZO vl1);refine wk ?_;exact aa h.o
 rw[if_neg s8]at h;replace h:=hid h;refine wk ?_;exact aa h.o
def akQ(syn:Int)(x y:List UInt8):Int:=if syn=4 then aaz (Un x) (Un y)else Lib.compareBytes x y
def rT(syn:Int)(a b:List UInt8):Option Int:=match bw syn a,bw syn b with
 |some x,some y=>if syn=5\/syn=6\/syn=7 then none else some (akQ syn x y)
 |_,_=>none
def abg:Option Int->AV
 |some c=>.tup [.int .i64 c,.bool true]
 |none=>.tup [.int .i64 0,.bool false]
theorem K3{x:List UInt8}(h:bw syn v=some x):v.length<=4096:=by unfold bw at h;split at h;cases h;omega
theorem Vt{x:List UInt8}(h:bw 4 v=some x):x=v/\rU v=true:=by
 unfold bw at h;split at h;cases h;have e:tA 4 v=if rU v=true then some v else none:=rfl
 rw[e]at h;split at h;rename_i hn;exact⟨(Option.some.inj h).symm,hn⟩;cases h
theorem ZF(h:K (abg (rT syn a b)) L):alo 80 [.int .i64 syn,.str a,.str b] L K:=by
 unfold rT at h;refine aln Sg ?_;refine eg ?_;rcases ha:bw syn a with _|x;rw[ha]at h;simp only[abg]at h;replace h:=hid h;simp only[iC];refine aoR ?_;refine eg ?_;rcases bw syn b with _|y;simp only[iC];refine aoR ?_;exact aa h.o;simp only[iC];refine aoR ?_;exact aa h.o;rw[ha]at h;simp only[iC];refine aoR ?_;refine eg ?_;rcases hb:bw syn b with _|y;rw[hb]at h;simp only[abg]at h;replace h:=hid h;simp only[iC];refine aoR ?_;exact aa h.o;rw[hb]at h;simp only at h;simp only[iC];by_cases h5:syn=5;rw[if_pos (.inl h5)]at h;simp only[abg]at h;replace h:=hid h;refine aoR ?_;exact aa h.o;by_cases h6:syn=6;rw[if_pos (.inr (.inl h6))]at h;simp only[abg]at h;replace h:=hid h;refine aoR ?_;exact aa h.o;by_cases h7:syn=7;rw[if_pos (.inr (.inr h7))]at h;simp only[abg]at h;replace h:=hid h;refine aoR ?_;exact aa h.o;rw[if_neg aoJ]at h;simp only[abg,akQ]at h;by_cases h4:syn=4;subst h4;rw[if_pos rfl]at h;replace h:=hid h;obtain⟨ex,_⟩:=Vt ha;obtain⟨ey,_⟩:=Vt hb;have la:=K3 ha;have lb:=K3 hb;have lx:(x.length:Int)<=1100000:=by rw[ex];omega
 have ly:(y.length:Int)<=1100000:=by rw[ey];omega
 clear ha hb ex ey;refine sk ?_;have kk1:=@aoQ _ _ _ _ (RN lx);have kk2:=@aoQ _ _ _ _ (RN ly);have kk3:=@hid _ @aiR;refine wk ?_;exact aa h.o;rw[if_neg h4]at h;replace h:=hid h;clear ha hb;refine sk ?_;have kk1:=@hid _ @rG;refine wk ?_;exact aa h.o
theorem YV:∀a b:List UInt8,Lib.compareBytes a b=if a<b then -1 else if b<a then 1 else 0
 |[],[]=>by simp[Lib.compareBytes]
 |[],b::bs=>by simp[Lib.compareBytes]
 |a::xs,[]=>by simp[Lib.compareBytes]
 | a::xs,b::bs=>by
   rw[Lib.compareBytes,YV xs bs];simp only[List.cons_lt_cons_iff];by_cases h1:a<b
   .rw[if_pos h1,if_pos (.inl h1)]
   .rw[if_neg h1];by_cases h2:b<a
    .rw[if_pos h2,if_neg,if_pos (.inl h2)];rintro(e|⟨e,_⟩)
     .exact h1 e
     .subst e;exact h1 h2
    .rw[if_neg h2];have e:a=b:=by
      rcases Nat.lt_trichotomy a.toNat b.toNat with h|h|h
      .exact absurd h h1
      .exact anc.1 h
      .exact absurd h h2
     subst e;simp
abbrev Typ:=List UInt8×Int×Bool×Bool
variable {ts:List Typ}{ty:Typ}
def cc:List Atr->List UInt8->List (List UInt8)
 |[],_=>[]
 |a::t,n=>if af a.1=af n then a.2 else cc t n
def rE(n:List UInt8)(vs:List (List UInt8)):Bool->List Atr->List Atr
 |done,[]=>if done=true then[]else[(n,vs)]
 |done,a::t=>(if done=false/\¬af a.1<af n then[(n,vs)]else[])++(if af n≠af a.1 then[a]else[])++rE n vs (done || !decide (af a.1<af n)) t
def eF(syn:Int)(v:List UInt8):List UInt8:=(bw syn v).getD []
def inM(syn:Int)(l:List (List UInt8))(n:List UInt8):Bool:=l.any λv=>decide (eF syn v=n)
def iD(syn:Int)(v:List UInt8):Bool->List (List UInt8)->List (List UInt8)
 |done,[]=>if done=true then[]else[v]
 |done,x::t=>(if done=false/\eF syn v<eF syn x then[v]else[])++x::iD syn v (done ||decide (eF syn v<eF syn x)) t
def fD(syn:Int)(single:Bool):List (List UInt8)->List (List UInt8)->List (List UInt8)×Int
 |l,[]=>if single=true/\1<l.length then([],19)else(l,0)
 | l,v::vs=>match bw syn v with
   |none=>([],21)
   |some n=>if inM syn l n=true then([],20)else fD syn single (iD syn v false l) vs
def ez(ts:List Typ)(n:List UInt8):Option Typ:=ts.find? λt=>decide (af t.1=af n)
def xl(ts:List Typ):List Atr->List Atr->List Atr×Int
 |out,[]=>(out,0)
 | out,a::t=>match ez ts a.1 with
   |none=>([],17)
   | some ty=>if a.2=[] then ([],19) else
     if(fD ty.2.1 ty.2.2.1 (cc out a.1) a.2).2≠0 then([],(fD ty.2.1 ty.2.2.1 (cc out a.1) a.2).2)
     else xl ts (rE ty.1 (fD ty.2.1 ty.2.2.1 (cc out a.1) a.2).1 (fD ty.2.1 ty.2.2.1 (cc out a.1) a.2).1.isEmpty out) t
section
variable {α:Type}(key:α->List UInt8)
def f9(l:List α)(k:List UInt8):Nat:=(l.takeWhile λa=>decide (key a<k)).length
def gT(l:List α):Prop:=l.Pairwise λa b=>key a<key b
theorem YU(l:List α)(k:List UInt8):f9 key l k<=l.length:=by unfold f9;exact(List.takeWhile_sublist _).length_le
theorem rz(a:α)(l:List α)(k:List UInt8):f9 key (a::l) k=if key a<k then f9 key l k+1 else 0:=by unfold f9;rw[List.takeWhile_cons];by_cases h:key a<k;simp[h];simp[h]
end
theorem Pl(syn:Int)(v:List UInt8):∀l,iD syn v true l=l
 |[]=>rfl
 |x::t=>by rw[iD,if_neg aoK];simp[Pl syn v t]
theorem Vu(syn:Int)(v:List UInt8):∀l:List (List UInt8),inM syn l (eF syn v)=false->iD syn v false l=l.take (f9 (eF syn) l (eF syn v))++v::l.drop (f9 (eF syn) l (eF syn v))
 |[],_=>rfl
 | x::t,h=>by
   simp only[inM,List.any_cons,an0,decide_eq_false_iff_not]at h;rw[iD,rz];by_cases hx:eF syn x<eF syn v
   .have hx2:¬eF syn v<eF syn x:=λe=>amz _ (anv e hx)
    rw[if_pos hx,if_neg (λe=>hx2 e.2),decide_eq_false hx2];simp only[anI,al2,am8,anZ,al3];rw[Vu syn v t (by simpa[inM]using h.2)]
   .have hx2:eF syn v<eF syn x:=by
     rcases anL.1 (amR.1 hx)with e|e
     .exact e
     .exact absurd e.symm h.1
    rw[if_neg hx,if_pos ⟨rfl,hx2⟩,decide_eq_true hx2];simp[Pl]
abbrev dS(a:Atr):List UInt8:=af a.1
theorem Yj(n:List UInt8):∀l:List Atr,gT dS l->cc l n=match l[f9 dS l (af n)]? with
  |some a=>if af a.1=af n then a.2 else[]
  |none=>[]
 |[],_=>rfl
 | a::t,h=>by
   obtain⟨h1,h2⟩:=al7.1 h;rw[cc,rz];by_cases hx:dS a<af n
   .have hne:¬af a.1=af n:=λe=>by rw[show dS a=af a.1 from rfl,e]at hx;exact amz _ hx
    rw[if_pos hx,if_neg hne,Yj n t h2,am7]
   .rw[if_neg hx,amk];simp only;by_cases he:af a.1=af n
    .rw[if_pos he,if_pos he]
    .rw[if_neg he,if_neg he];have hlt:af n<dS a:=by
      rcases anL.1 (amR.1 hx)with e|e
      .exact e
      .exact absurd e.symm he
     have hno:∀u:List Atr,(∀b∈u,dS a<dS b)->cc u n=[]:=λu=>by
      induction u with
      |nil=>intro _;rfl
      | cons b u ih =>
        intro hb;rw[cc,if_neg,ih (λc hc=>hb c (by simp[hc]))];intro e;have h3:=anv hlt (hb b aoK);rw[show dS b=af b.1 from rfl,e]at h3;exact amz _ h3
     exact hno t h1
theorem Xe(n:List UInt8)(vs:List (List UInt8)):∀l:List Atr,(∀a∈l,af n≠af a.1)->rE n vs true l=l
 |[],_=>rfl
 |a::t,h=>by rw[rE,if_neg aoK,if_pos (h a aoK),anr,Xe n vs t (λb hb=>h b (by simp[hb]))];rfl
theorem acp(n:List UInt8)(vs:List (List UInt8)):∀l:List Atr,gT dS l->rE n vs false l=match l[f9 dS l (af n)]? with
  |some a=>if af a.1=af n then l.set (f9 dS l (af n)) (n,vs)else l.take (f9 dS l (af n))++(n,vs)::l.drop (f9 dS l (af n))
  |none=>l++[(n,vs)]
 |[],_=>rfl
 | a::t,h=>by
   obtain⟨h1,h2⟩:=al7.1 h;rw[rE,rz];by_cases hx:dS a<af n
   .have hx2:af a.1<af n:=hx;have hne:af n≠af a.1:=λe=>by rw[e]at hx2;exact amz _ hx2
    rw[if_pos hx,if_neg (λe=>e.2 hx2),if_pos hne,decide_eq_true hx2,am7];simp only[am0,anI,al2,anW,am8,anZ,al3];rw[acp n vs t h2];rcases t[f9 dS t (af n)]? with _|b
    .rfl
    .simp only;split<;>rfl
   .have hx2:¬af a.1<af n:=hx;rw[if_neg hx,if_pos ⟨rfl,hx2⟩,decide_eq_false hx2,amk];have hge:∀b∈t,af n≠af b.1:=λb hb e=>by have h3:af a.1<af b.1:=h1 b hb;rw[<- e]at h3;exact hx2 h3
    simp only[anh,anY,aof,amX,ans,al2,al3];rw[Xe n vs t hge];by_cases he:af a.1=af n
    .rw[if_pos he,if_neg (λq=>q he.symm)];rfl
    .rw[if_neg he,if_pos (λq=>he q.symm)];rfl
theorem Vh(l:List α)(c:Nat)(v:α):(l.take c++v::l.drop c).Perm (v::l):=by refine List.perm_middle.trans ?_;rw[am9]
theorem K1{l:List α}{c:Nat}{v b:α}:b∈l.take c++v::l.drop c↔b=v\/b∈l:=by rw[(Vh l c v).mem_iff,alu]
theorem K0{α:Type}{key:α->List UInt8}{v:α}:∀{l:List α},gT key l->(∀x∈l,key x≠key v)->gT key (l.take (f9 key l (key v))++v::l.drop (f9 key l (key v)))
 |[],_,_=>by simp[gT]
 | a::t,h,hn=>by
   obtain⟨h1,h2⟩:=al7.1 h;rw[rz];by_cases hx:key a<key v
   .rw[if_pos hx];simp only[am8,anZ,al3];refine al7.2 ⟨λb hb=>?_,K0 h2 λx hxx=>hn x (by simp[hxx])⟩;rcases K1.1 hb with rfl|hb
    .exact hx
    .exact h1 b hb
   .rw[if_neg hx];have hlt:key v<key a:=by
     rcases anL.1 (amR.1 hx)with e|e
     .exact e
     .exact absurd e.symm (hn a aoK)
    simp only[amX,ans,al2];refine al7.2 ⟨λb hb=>?_,h⟩;rcases alu.1 hb with rfl|hb
    .exact hlt
    .exact anv hlt (h1 b hb)
theorem Ss{m:List UInt8}(h:af n=af m):ez ts n=ez ts m:=by unfold ez;rw[h]
def InV(syn:Int)(l:List (List UInt8)):Prop:=gT (eF syn) l/\∀v∈l,(bw syn v).isSome=true
theorem acU{syn:Int}{single:Bool}:∀{vs l:List (List UInt8)},InV syn l->(fD syn single l vs).2=0->InV syn (fD syn single l vs).1
 | [],l,h,h0=>by
   rw[fD]at h0⊢;split
   .rename_i hc;rw[if_pos hc]at h0;cases h0
   .exact h
 | v::vs,l,h,h0=>by
   rw[fD]at h0⊢;rcases hv:bw syn v with _|n
   .rw[hv]at h0;cases h0
   .rw[hv]at h0;simp only at h0⊢;split
    .rename_i hc;rw[if_pos hc]at h0;cases h0
    .rename_i hc;rw[if_neg hc]at h0;have hk:eF syn v=n:=(by simp[eF,hv]);have hin:inM syn l (eF syn v)=false:=(by rw[hk];simpa using hc);refine acU ?_ h0;rw[Vu syn v l hin];refine⟨K0 h.1 λx hx e=>?_,λx hx=>?_⟩
     .simp only[inM,ane,decide_eq_true_eq]at hin;exact hin x hx e
     .rcases K1.1 hx with rfl|hx
      .rw[hv];rfl
      .exact h.2 x hx
def InA(ts:List Typ)(l:List Atr):Prop:=gT dS l/\∀a∈l,∃ty,ez ts a.1=some ty/\ty.1=a.1/\a.2≠[]/\InV ty.2.1 a.2/\(ty.2.2.1=true->a.2.length<=1)
theorem acj{l:List Atr}(h:InA ts l)(ht:ez ts n=some ty):InV ty.2.1 (cc l n):=by rw[Yj n l h.1];rcases hg:l[f9 dS l (af n)]? with _|a;exact⟨List.Pairwise.nil,λv hv=>by cases hv⟩;simp only;split;rename_i he;obtain⟨ty',h1,_,_,h4,_⟩:=h.2 a (al8 hg);rw[Ss he,ht]at h1;cases h1;exact h4;exact⟨List.Pairwise.nil,λv hv=>by cases hv⟩
theorem Gk{α:Type}{key:α->List UInt8}{k:List UInt8}:∀{l:List α},gT key l->(∀a,l[f9 key l k]?=some a->key a≠k)->∀x∈l,key x≠k
 |[],_,_,_,hx=>by cases hx
 | a::t,h,hc,x,hx=>by
   obtain⟨h1,h2⟩:=al7.1 h;rw[rz]at hc;by_cases ha:key a<k
   .rw[if_pos ha]at hc;rcases alu.1 hx with rfl|hx
    .intro e;rw[e]at ha;exact amz _ ha
    .exact Gk h2 (λb hb=>hc b (by simpa using hb)) x hx
   .rw[if_neg ha]at hc;have hne:=hc a aoK;have hlt:k<key a:=by
     rcases anL.1 (amR.1 ha)with e|e
     .exact e
     .exact absurd e.symm hne
    rcases alu.1 hx with rfl|hx
    .exact hne
    .intro e;have:=anv hlt (h1 x hx);rw[e]at this;exact amz _ this
theorem adr{key:α->List UInt8}{l:List α}{c:Nat}{a x:α}(h:gT key l)(hc:l[c]?=some a)(hk:key x=key a):gT key (l.set c x):=by
 have e:(l.set c x).map key=l.map key:=by rw[List.map_set,hk];obtain⟨hlt,rfl⟩:=alq.1 hc;rw[<- List.getElem_map (f:=key) (h:=by simpa using hlt),List.set_getElem_self]
 have h2:(l.map key).Pairwise (· < ·):=an2.2 h;rw[<- e]at h2;exact an2.1 h2
theorem ah4{l:List Atr}{vs:List (List UInt8)}(h:InA ts l)(ht:ez ts n=some ty)(hn:ty.1=n)(hv:vs≠[])(hi:InV ty.2.1 vs)(h1:ty.2.2.1=true->vs.length<=1):InA ts (rE n vs false l):=by
 have hnew:∃ty',ez ts n=some ty'/\ty'.1=n/\vs≠[]/\InV ty'.2.1 vs/\(ty'.2.2.1=true->vs.length<=1):=⟨ty,ht,hn,hv,hi,h1⟩;rw[acp n vs l h.1];rcases hg:l[f9 dS l (af n)]? with _|a;simp only;have hno:=Gk (k:=af n) h.1 (λa ha=>by rw[hg]at ha;cases ha);have hc:f9 dS l (af n)=l.length:=Nat.le_antisymm (YU _ _ _) (List.getElem?_eq_none_iff.1 hg);have e:l++[(n,vs)]=l.take (f9 dS l (dS (n,vs)))++(n,vs)::l.drop (f9 dS l (dS (n,vs))):=by rw[show dS (n,vs)=af n from rfl,hc,alF,al6]
 rw[e];refine⟨K0 h.1 hno,λb hb=>?_⟩;rcases K1.1 hb with rfl|hb;exact hnew;exact h.2 b hb;simp only;split;rename_i he;refine⟨adr h.1 hg he.symm,λb hb=>?_⟩;rcases anM hb with hb|rfl;exact h.2 b hb;exact hnew;rename_i he;have hno:=Gk (k:=af n) h.1 (λb hb=>by rw[hg]at hb;cases hb;exact he);refine⟨K0 (key:=dS) (v:=(n,vs)) h.1 hno,λb hb=>?_⟩;rcases K1.1 hb with rfl|hb;exact hnew;exact h.2 b hb
theorem afZ(syn:Int)(v:List UInt8)(l:List (List UInt8)):iD syn v false l≠[]:=by rcases l with _|⟨x,t⟩;simp[iD];simp[iD]
theorem acT{syn:Int}{single:Bool}:∀{vs l:List (List UInt8)},l≠[]\/vs≠[]->(fD syn single l vs).2=0->(fD syn single l vs).1≠[]
 | [],l,h,h0=>by
   rw[fD]at h0⊢;split
   .rename_i hc;rw[if_pos hc]at h0;cases h0
   .rcases h with h|h
    .exact h
    .exact absurd rfl h
 | v::vs,l,h,h0=>by
   rw[fD]at h0⊢;rcases hv:bw syn v with _|n
   .rw[hv]at h0;cases h0
   .rw[hv]at h0;simp only at h0⊢;split
    .rename_i hc;rw[if_pos hc]at h0;cases h0
    .rename_i hc;rw[if_neg hc]at h0;exact acT (.inl (afZ syn v l)) h0
theorem Ui{syn:Int}{single:Bool}:∀{vs l:List (List UInt8)},(fD syn single l vs).2=0->single=true->(fD syn single l vs).1.length<=1
 | [],l,h0,hs=>by
   rw[fD]at h0⊢;split
   .rename_i hc;rw[if_pos hc]at h0;cases h0
   .rename_i hc;have:¬1<l.length:=λe=>hc ⟨hs,e⟩
    simp only;omega
 | v::vs,l,h0,hs=>by
   rw[fD]at h0⊢;rcases hv:bw syn v with _|n
   .rw[hv]at h0;cases h0
   .rw[hv]at h0;simp only at h0⊢;split
    .rename_i hc;rw[if_pos hc]at h0;cases h0
    .rename_i hc;rw[if_neg hc]at h0;exact Ui h0 hs
theorem KW(h:ez ts n=some ty):ty∈ts/\af ty.1=af n:=by unfold ez at h;exact⟨anS h,by simpa using an7 h⟩
theorem Yz{ts:List Typ}:∀{l out:List Atr},InA ts out->(xl ts out l).2=0->InA ts (xl ts out l).1
 |[],out,h,_=>h
 | a::t,out,h,h0=>by
   rw[xl]at h0⊢;rcases ht:ez ts a.1 with _|ty
   .rw[ht]at h0;cases h0
   .rw[ht]at h0;simp only at h0⊢;split
    .rename_i hc;rw[if_pos hc]at h0;cases h0
    .rename_i hc;rw[if_neg hc]at h0;split
     .rename_i hd;rw[if_pos hd]at h0;exact absurd h0 hd
     .rename_i hd;rw[if_neg hd]at h0;simp only[ne_eq,anN]at hd;have hne:=acT (l:=cc out a.1) (.inr hc) hd;have hem:(fD ty.2.1 ty.2.2.1 (cc out a.1) a.2).1.isEmpty=false:=(by simpa using hne);rw[hem]at h0⊢;have hts:=KW ht;exact Yz (ah4 h (by rw[Ss hts.2];exact ht) rfl hne (acU (acj h ht) hd) (Ui hd)) h0
set_option maxHeartbeats 8000000
set_option maxRecDepth 100000
theorem abZ{α:Type}{key:α->List UInt8}{k:List UInt8}:∀{l:List α},gT key l->∀(h:Nat) (hh:h<l.length),(key l[h]<k↔h<f9 key l k)
 | a::t,hr,h,hh=>by
   obtain⟨h1,h2⟩:=al7.1 hr;rw[rz];by_cases ha:key a<k
   .rw[if_pos ha];rcases h with _|h
    .exact⟨λ_=>aoJ,λ_=>ha⟩
    .have:=abZ (k:=k) h2 h (by simpa using hh);simp only[List.getElem_cons_succ,this];omega
   .rw[if_neg ha];rcases h with _|h
    .exact⟨λe=>absurd e ha,λe=>aoJ⟩
    .constructor
     .intro e;have hm:key a<key ((a::t)[h+1]'hh):=h1 _ aoK;exact absurd (anv hm e) ha
     .intro e;omega
theorem aeu{key:α->List UInt8}{k:List UInt8}{l:List α}(hr:gT key l):(l.any λa=>decide (key a=k))=match l[f9 key l k]? with
  |some a=>decide (key a=k)
  |none=>false:=by
 cases h:l[f9 key l k]? with
 | none =>
   simp only[ane,decide_eq_true_eq];exact Gk hr (λa ha=>by rw[h]at ha;cases ha)
 | some a =>
   simp only;by_cases he:key a=k
   .rw[decide_eq_true he,anb];exact⟨a,al8 h,by simpa using he⟩
   .rw[decide_eq_false he];simp only[ane,decide_eq_true_eq];exact Gk hr (λb hb=>by rw[h]at hb;cases hb;exact he)
theorem aeD{single:Bool}{l:List (List UInt8)}{vs:List (List UInt8)}(h0:(fD syn single l (v::vs)).2=0):
  (bw syn v).isSome=true/\inM syn l (eF syn v)=false/\fD syn single l (v::vs)=fD syn single (iD syn v false l) vs:=by
 rw[fD]at h0⊢;rcases hv:bw syn v with _|n;rw[hv]at h0;cases h0;rw[hv]at h0;simp only at h0⊢;have hk:eF syn v=n:=by simp[eF,hv]
 split;rename_i hc;rw[if_pos hc]at h0;cases h0;rename_i hc;exact⟨rfl,by rw[hk];simpa using hc,rfl⟩
theorem afY{l:List (List UInt8)}(h:inM syn l (eF syn v)=false):(iD syn v false l).length=l.length+1:=by rw[Vu syn v l h,(Vh _ _ _).length_eq,alA]
theorem Wz{syn:Int}{single:Bool}:∀{vs l:List (List UInt8)},(fD syn single l vs).2=0->(fD syn single l vs).1.length=l.length+vs.length
 | [],l,h0=>by
   rw[fD]at h0⊢;split
   .rename_i hc;rw[if_pos hc]at h0;cases h0
   .rfl
 |v::vs,l,h0=>by obtain⟨h1,h2,h3⟩:=aeD h0;rw[h3]at h0⊢;rw[Wz h0,afY h2,alA];omega
theorem Zi{n m:List UInt8}(h:af n=af m):∀l:List Atr,cc l n=cc l m
 |[]=>rfl
 |a::t=>by rw[cc,cc,h,Zi h t]
theorem afW(ts:List Typ):InA ts []:=⟨List.Pairwise.nil,λa ha=>by cases ha⟩
end Go.Proofs.YtcmfcpjnhephaaaGreatDoor.Av
