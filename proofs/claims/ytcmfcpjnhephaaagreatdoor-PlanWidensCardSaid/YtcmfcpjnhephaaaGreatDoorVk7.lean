/- Joined texts of the walk, made small by a program. -/
import Derived.Test.YtcmfcpjnhephaaaGreatDoorVk5
import Derived.Test.YtcmfcpjnhephaaaGreatDoorVk6
import Derived.Test.YtcmfcpjnhephaaaGreatDoorVk4
import Derived.Shelf.Sort.Plain
import Derived.Test.YtcmfcpjnhephaaaGreatDoorRows
import Derived.KernelRfl
import Derived.Sort.Walk0
set_option linter.unusedSimpArgs false
set_option linter.unusedVariables false
namespace Go.Proofs.YtcmfcpjnhephaaaGreatDoor.Av
open Go Go.Sort
variable {L:List Blk}{K:ag7}
abbrev cn(xs:List (List UInt8)):List AV:=xs.map AV.str
theorem Ru{xs:List (List UInt8)}{sep:List UInt8}{cap:Option Nat}(hn:xs.length<=1100000)(hl:(Lib.join xs sep).length<=140737488355328)(h:K (.str (Lib.join xs sep)) L):
  ag6 215 [.sl (cn xs) xs.length cap,.str sep] L K :=
 cW Tryz.func215 rfl (by kernel_rfl) (λw0 S0 E w vs hR hv=>by
  simp only[VRL,VR]at hv;obtain⟨_,_,rfl,⟨p,c,rfl,hle,_,hp⟩,_,_,rfl,rfl,rfl⟩:=hv;by_cases hx:xs=[];subst hx;exact(Tryz.strings_Join_none p c ⟨⟨sep⟩⟩ w).mono λe w' ⟨he,hw⟩=>⟨_,he,by simp[VR,Lib.join],by subst hw;exact rT.refl _⟩
  rcases hp with⟨e0,_⟩|⟨b,o,rfl,hcells⟩;exact absurd (ahH.1 e0) hx;have hmem:∀(j:Nat) x,(xs.map λs=>(⟨⟨s⟩⟩:ByteArray))[j]?=some x->w.cell? ⟨b,o+j,none⟩=some (.string x):=λj x hj=>by rw[ahS]at hj;rcases hxs:xs[j]? with _|s;rw[hxs]at hj;cases hj;rw[hxs]at hj;simp only[ahu,aha]at hj;subst hj;obtain⟨v,g1,g2⟩:=hcells.get (i:=j) (a:=.str s) (by rw[ahS,hxs];rfl);simp only[VR]at g2;subst g2;exact hR.mem _ _ _ g1
  have hb:b<w.heap.size:=by have hx0:0<xs.length:=ain.2 hx;have h0:=hmem 0 ⟨⟨xs[0]⟩⟩ (by rw[ahS,ahn hx0];rfl);rcases aht b w.heap.size with g|g;exact g;simp[World.cell?,ajv g]at h0
  have hmm:(xs.map λs=>(⟨⟨s⟩⟩:ByteArray)).map (·.data.toList)=xs:=(by rw[ahK];exact List.map_id'' (λ_=>rfl) xs);have key:=Tryz.strings_Join b o c (xs.map λs=>(⟨⟨s⟩⟩:ByteArray)) ⟨⟨sep⟩⟩ w hmem hb (by rw[ahP];omega) (by rw[ahP];exact hle) (by rw[hmm];exact hl);rw[hmm]at key;simp only[ahP]at key;exact key.mono λe w' ⟨he,hbel⟩=>⟨_,he,by simp[VR],⟨λb hb=>hbel.block b hb,hbel.size,hbel.os,hbel.tape,hbel.output⟩⟩) h
theorem Rel.putStrs{w0:World}{S0:SB}{E:Env}{L:List Blk}{w:World}(h:Rel w0 S0 E L w){i:Nat}{xs d:List (List UInt8)}{rest:List AV}{c:Loc}(hi:L[i]?=some (.cells (cn xs++rest)))(hc:E.loc i=some c)(hd:d.length=xs.length)(q:Nat):
  Rel w0 S0 E (L.set i (.cells (cn d++rest))) (putRow encStr (Sort.ahead w q) c.blk c.off d.toArray):=by
 obtain⟨c',cs,ty,fr,h1,h2,h3,h4,h5,h6⟩:=h.blk i _ hi;rw[hc]at h1;cases h1;have hlt:c.blk<w.heap.size:=(ah8.1 h2).1;have e1:(putRow encStr (Sort.ahead w q) c.blk c.off d.toArray).heap[c.blk]?=some (.cells (putCells encStr c.off d.toArray cs) ty fr):=by simp[putRow,mapBlock,Sort.ahead,ai1,h2,onCells]
 have hlen:(cn xs++rest).length=xs.length+rest.length:=by simp
 refine h.turn (k':=.cells (cn d++rest)) hi rfl hc (by simp) (λb hb=>?_) rfl rfl rfl ⟨c,_,ty,fr,hc,e1,by simp[putCells,h3],?_,λj a ha=>?_,h6⟩ (λ_ _ e=>by cases e);have:c.blk≠b:=λe=>hb e.symm
 simp[putRow,mapBlock,Sort.ahead,ai1,this];rw[hlen]at h4;simp only[ahq,ahP,hd];omega;rw[hlen]at h4;have hj:j<d.length+rest.length:=by have:=(ag8.1 ha).1;simpa using this
 have hcs:c.off+j<cs.size:=by omega
 have ep:(putCells encStr c.off d.toArray cs)[c.off+j]?=some (if c.off<=c.off+j/\c.off+j<c.off+d.length then encStr (d.toArray[c.off+j-c.off]!)else cs[c.off+j]):=by simp[putCells,hcs]
 by_cases hjd:j<d.length;have ea:a=.str d[j]:=by rw[ahi (by simpa using hjd)]at ha;simpa[hjd]using ha.symm
 subst ea;refine⟨_,ep,?_⟩;rw[if_pos (by omega),show c.off+j-c.off=j by omega];simp[VR,encStr,hjd];have ha':(cn xs++rest)[j]?=some a:=by rw[ahB (by simp;omega)]at ha⊢;simpa[hd]using ha
 obtain⟨v,g1,g2⟩:=h5 j a ha';refine⟨v,?_,g2⟩;rw[ep,if_neg (by omega),<- g1];simp[hcs]
theorem QU{w0:World}{S0:SB}{E:Env}{L:List Blk}{w:World}(h:Rel w0 S0 E L w){i:Nat}{xs:List (List UInt8)}{rest:List AV}{c:Loc}(hi:L[i]?=some (.cells (cn xs++rest)))(hc:E.loc i=some c):
  Holds encStr w c.blk c.off xs.toArray/\c.blk<w.heap.size:=by
 obtain⟨c',cs,ty,fr,h1,h2,h3,h4,h5,h6⟩:=h.blk i _ hi;rw[hc]at h1;cases h1;refine⟨λj hj=>?_,(ah8.1 h2).1⟩;have hj':j<xs.length:=by simpa using hj
 obtain⟨v,g1,g2⟩:=h5 j (.str xs[j]) (by rw[ahi (by simpa using hj')];simp[hj']);simp only[VR]at g2;subst g2;refine⟨by simp[World.cell?,encStr,h2,g1,hj'],?_⟩;have h7:=h6 (c.off+j) (by omega) (by simp only[ahq,ahP]at h4;omega);simp only[World.frozen?,h2];obtain⟨f1,f2⟩:=fr;simp only at h7;simp only[ajl,decide_eq_false_iff_not];omega
theorem DI{P:Program}{f:FuncId}{fn:Func}(hf:P.funcs[f]?=some fn)(hb:fn.body.isSome=true)(hn:(fn.name == "runtime.NumGoroutine")=false)(args:Array Value)(w:World):(callFunc f args).run P w=.ok (.enter f args) w:=by
 simp only[callFunc,ahg,run_program,ahh,hf,hn];cases h:fn.body with
 |none=>simp[h]at hb
 |some c=>simp
def dH(xs:List (List UInt8)):List (List UInt8):=xs.mergeSort λx y=>decide (x<=y)
theorem adD{xs:List (List UInt8)}{i:Nat}{cp:Option Nat}{rest:List AV}(hx:xs≠[])(hn:xs.length<=1100000)(hL:L[i]?=some (.cells (cn xs++rest)))(h:K (.tup []) (L.set i (.cells (cn (dH xs)++rest)))):
  ag6 214 [.lsl i 0 xs.length cp 1] L K:=λw0 S0 E w vs hR hv=>by
 simp only[VRL,VR]at hv;obtain⟨_,_,rfl,⟨c,rc,d,hc,rfl,hd,hle,_,_⟩,rfl⟩:=hv;have hpos:0<xs.length:=ain.2 hx;have hd':d=c.off:=by have:=hd (by omega);omega
 subst hd';obtain⟨hH,hlt⟩:=QU hR hL hc;refine .inl ⟨DI Tryz.func214 rfl (by kernel_rfl) _ _,(Tryz.slices_Sort_string c.blk c.off rc xs w hH hlt (by omega)).mono ?_⟩;rintro e w' ⟨rfl,q,os,rfl⟩;have r1:=hR.putStrs hL hc (d:=dH xs) (by simp[dH]) q;refine⟨E,_,_,_,rfl,.refl E,h,by simp[VR,VRL],r1.grown ?_⟩;exact⟨λb hb=>ajR hb,by simp[grow],rfl,rfl,rfl⟩
theorem aaV{cap:Option Nat}(h:K (.tup []) L):ag6 214 [.sl [] 0 cap] L K :=
 cW Tryz.func214 rfl (by kernel_rfl) (λw0 S0 E w vs hR hv=>by simp only[VRL,VR]at hv;obtain⟨_,_,rfl,⟨p,c,rfl,_⟩,rfl⟩:=hv;exact(Tryz.slices_Sort_string_none p c w).mono λe w' ⟨he,hw⟩=>⟨_,he,by simp[VR,VRL],by subst hw;exact rT.refl _⟩) h
theorem aea{xs:List (List UInt8)}{sep:List UInt8}{i:Nat}{cp:Option Nat}(hx:xs≠[])(hn:xs.length<=1100000)(hl:(Lib.join xs sep).length<=140737488355328)(hL:L[i]?=some (.cells (cn xs)))(h:K (.str (Lib.join xs sep)) L):
  ag6 215 [.lsl i 0 xs.length cp 1,.str sep] L K:=λw0 S0 E w vs hR hv=>by
 simp only[VRL,VR]at hv;obtain⟨_,_,rfl,⟨c,rc,d,hc,rfl,hd,hle,_,_⟩,_,_,rfl,rfl,rfl⟩:=hv;have hpos:0<xs.length:=ain.2 hx;have hd':d=c.off:=by have:=hd (by omega);omega
 subst hd';obtain⟨hH,hlt⟩:=QU (rest:=[]) hR (by simpa using hL) hc;have hmem:∀(j:Nat) x,(xs.map λs=>(⟨⟨s⟩⟩:ByteArray))[j]?=some x->w.cell? ⟨c.blk,c.off+j,none⟩=some (.string x):=λj x hj=>by have hjl:j<xs.length:=(by have:=(ag8.1 hj).1;simpa using this);have e:=(hH j (by simpa using hjl)).1;rw[ahS,ahn hjl]at hj;simp only[ahu,aha]at hj;subst hj;rw[e];simp[encStr,hjl]
 have hmm:(xs.map λs=>(⟨⟨s⟩⟩:ByteArray)).map (·.data.toList)=xs:=by rw[ahK];exact List.map_id'' (λ_=>rfl) xs
 have key:=Tryz.strings_Join c.blk c.off rc (xs.map λs=>(⟨⟨s⟩⟩:ByteArray)) ⟨⟨sep⟩⟩ w hmem hlt (by rw[ahP];omega) (by rw[ahP];exact hle) (by rw[hmm];exact hl);rw[hmm]at key;simp only[ahP]at key;refine .inl ⟨DI Tryz.func215 rfl (by kernel_rfl) _ _,key.mono ?_⟩;rintro e w' ⟨rfl,hbel⟩;exact⟨E,_,_,_,rfl,.refl E,h,by simp[VR],hR.grown ⟨λb hb=>hbel.block b hb,hbel.size,hbel.os,hbel.tape,hbel.output⟩⟩
end Go.Proofs.YtcmfcpjnhephaaaGreatDoor.Av
set_option maxRecDepth 100000
namespace Go.Proofs.YtcmfcpjnhephaaaGreatDoor.Av
open Go
variable {xs:List (List UInt8)}{i n:Nat}{d:List Rdn}{cap:Option Nat}{key:Bool}
def Pw:LSO:=[Ao 4]
def Pv:LSO:=[Aj 5]
def Pu:LSO:=[Aa 11 0,Am 12 11,Ac 13 0]
def Pt:LSO:=[Al 14 13 12]
def Ps:LSO:=[An 15 1 11 13,Ab 16 1 15,Aa 7 16]
def Pr:LSO:=[Aj 8]
def Pq:LSO:=[Aa 17 7,Am 18 17,Ac 19 0]
def Pp:LSO:=[Al 20 19 18]
def Po:LSO:=[An 21 2 17 19,Ap 22 2 21,Bg 10,Ai 2 10 22]
def Pn:LSO:=[Aa 23 1]
def Nd:List (ai×Kd):=
 [A5 24 0 10,Az 25 1 24 0 0,Ba 26 38 25 0 0,A5 27 1 10,Az 28 1 27 0 0]
def KW:List ai :=
 [⟨(some 29),(.call 95 [(tm 28)]),none⟩,⟨(some 30),(.build [(.str []),(.str [])] [(0,(1,(tm 26))),(1,(1,(tm 29)))]),none⟩,⟨none,(.store 2 (tm 10) (tm 30)),none⟩]
def Nc:List (ai×Kd):=
 [A6 31 8,A5 32 0 10,Az 33 1 32 0 0,od 34 (.bin .add (tm 33) (.av (.str [61]))) .pure,A5 35 1 10,Az 36 1 35 0 0,Ba 37 213 36 0 0,od 38 (.bin .add (tm 34) (tm 37)) .pure,
 od 39 (.bslice false 1 1 [(.str [])] [(0,(1,(tm 38)))]) (.read 0 0)]
def KV:List ai :=
 [⟨(some 40),(.app 2 1 16 [(.str [])] (tm 31) (tm 39)),none⟩,⟨(some 8),(.mv (tm 40)),none⟩]
def Nb:LSO:=[Ag 41 19 1,Aa 19 41]
def Na:LSO:=[Aa 42 1]
def M9:LSO:=[Aa 43 8,Ak 44 214 43]
def M8:LSO:=[Aa 45 5,Aa 46 8,o1 47 (.call 215 [(tm 46),(.av (.str [43]))]),Bl 48 47,Bh 49 45 48,Aa 5 49]
def M7:LSO:=[Ag 50 13 1,Aa 13 50]
def M6:LSO:=[Aa 51 5,o1 52 (.call 215 [(tm 51),(.av (.str [44]))]),Aa 4 52]
def vx:aO:=⟨53,(akg Pw [] (akg Pv [] (.seq (akg Pu [] (akj 0 (akg Pt [] (.seq (akk 14 0) (.seq (.block 1 (akg Ps Cr (akg Pr [] (.seq (akg Pq [] (akj 2 (akg Pp [] (.seq (akk 20 2) (.seq (.block 3 (akg Po Cr (.seq (akg Pn [] (akh 23 (.dregM Nd KW C2) .skip)) (.dregM Nc KV CJ)))) (.sreg Nb Cq)))))) (.seq (akg Na [] (akh 42 (.sreg M9 Cy) .skip)) (.sreg M8 Cu)))))) (.sreg M7 Cq)))))) (akg M6 Cr .ret)))),[(.tmp 4)]⟩
attribute [push_cast] Pw Pv Pu Pt Ps Pr Pq Pp Po Pn Nd KW Nc KV Nb Na M9 M8 M7 M6
theorem Of:aR Tryz.prog (λr i=>if r=11/\i=9 then 2 else 1) 178=some vx.raw:=by kernel_rfl
attribute [push_cast] vx
variable {L:List Blk}{K:ag7}
set_option maxHeartbeats 8000000
set_option maxRecDepth 100000
def avT(key:Bool)(a:Ava):List UInt8:=if key=true then af a.1++[61]++eu (bz a.2)else a.1++[61]++eu a.2
def dp(key:Bool)(r:Rdn):List UInt8:=Lib.join (if key=true then dH (r.map (avT key))else r.map (avT key)) [43]
def dY(key:Bool)(d:List Rdn):List UInt8:=Lib.join (d.map (dp key)) [44]
theorem Mk(n:Nat):∀(s:List UInt8) (i:Nat),(wrL n i s).length<=3*s.length
 |[],_=>by simp[wrL]
 |c::s,i=>by have h1:=Mk n s (i+1);have h2:=adu i n c;simp only[wrL,ahq,ahj];omega
theorem YZ(l:List (List UInt8)):AV.frzL (cn l)=cn l:=by rw[AV.frzL_eq,ahK];rfl
theorem Yp{sep:List UInt8}(hx:n=xs.length)(hn:xs.length<=1100000)(hl:(Lib.join xs sep).length<=140737488355328)(h:K (.str (Lib.join xs sep)) L):
  ag6 215 [.gsl (cn xs) n i 1,.str sep] L K:=by
 subst hx;exact iU (by simpa only[AV.frzL,AV.frz,YZ]using Ru (cap:=none) hn hl h)
theorem VP{sep:List UInt8}{cp:Option Nat}(he:n=xs.length)(hx:xs≠[])(hn:xs.length<=1100000)(hl:(Lib.join xs sep).length<=140737488355328)(hL:L[i]?=some (.cells (cn xs)))(h:K (.str (Lib.join xs sep)) L):
  ag6 215 [.lsl i 0 n cp 1,.str sep] L K:=by
 subst he;exact aea hx hn hl hL h
theorem adA(hn:d.length<=1000)(hr:∀r∈d,r.length<=1000/\∀a∈r,a.1.length<=10000/\a.2.length<=10000)(hj1:∀r∈d,(dp false r).length<=140737488355328)(hj2:(dY false d).length<=140737488355328)(h:K (.str (dY false d)) L):
  ag6 178 [.sl (d.map cq) d.length cap,.bool false] L K:=by
 replace h:=hid h;have hat:=hid (λk=>@LG d k);replace hr:=hid hr;replace hj1:=hid hj1;have s4:∀(W:List Blk) (j:Nat) (A:Blk),L.length<=j->(L++W).set j A=L++W.set (j-L.length) A:=λW j A hj=>ahT _ _ hj
 replace s4:=hid s4;refine ag5 Of ?_;refine bX (l:=[]) (n:=0) 5 1 rfl (ahD 1).symm ?_;refine ak (λn T' L'=>∃(i:Nat) (all:List (List UInt8)) (Z:List Blk),n=d.length-i/\i<=d.length/\Hid (all=(d.take i).map (dp false))/\L'[L.length]?=some (.spare i 1)/\T'=[(13,.int .i64 (i:Int)),(12,.int .i64 d.length),(11,.sl (d.map cq) d.length cap),(5,.gsl (cn all) i L.length 1),(1,.bool false)]/\L'=L++Z) (CutS (b:=by simp)) ⟨0,[],[.spare 0 1],rfl,ahf _,hid rfl,by simp,rfl,rfl⟩ ?_;rintro _ _ _ ⟨i,all,X,rfl,hi,hall,ho,rfl,rfl⟩;by_cases hlt:i<d.length
 .have g1:(i:Int)<(d.length:Int):=(by omega);have g2:=ag4 i (by omega);have e2:=hat.out i hlt;have hrm:d.getD i []∈d:=(by rw[ahz,ahn hlt];exact ah9 _);have hrl:=hr.out _ hrm;have hjr:=hj1.out _ hrm;obtain⟨r,hri⟩:=ag2 (d.getD i []);have htk:d.take (i+1)=d.take i++[r]:=(by rw[ahw hlt,<- hri];simp[hlt]);rw[hri]at e2 hrl hjr;clear hri hrm;obtain⟨hrl1,hrl2⟩:=hrl;replace hrl2:=hid hrl2;replace htk:=hid htk;have hX:=(ag8.1 ho).1;rw[ahq]at hX;replace hX:=hid hX;refine wk ?_;refine ak (λn T' L'=>∃(k:Nat) (v:AV) (Z:List Blk),n=r.length-k/\k<=r.length/\X.length<=Z.length/\L'[L.length]?=some (.spare i 1)/\Hid ((v=.sl [] 0 (some 0)/\k=0)\/∃j,(0<k/\L.length<j)/\v=.lsl j 0 k none 1/\L'[j]?=some (.cells (cn ((r.take k).map (avT false)))))/\T'=[(19,.int .i64 (k:Int)),(18,.int .i64 r.length),(17,cq r),(8,v),(13,.int .i64 (i:Int)),(12,.int .i64 d.length),(11,.sl (d.map cq) d.length cap),(5,.gsl (cn all) i L.length 1),(1,.bool false)]/\L'=L++Z) (CutS (b:=by simp)) ⟨0,_,X,rfl,ahf _,ag9 _,ho,hid (.inl ⟨rfl,rfl⟩),rfl,rfl⟩ ?_;rintro _ _ _ ⟨k,v,Z,rfl,hk,hXZ,ho2,hv,rfl,rfl⟩;replace hXZ:=hid hXZ;by_cases hkl:k<r.length
  .have g3:(k:Int)<(r.length:Int):=(by omega);have g4:=ag4 k (by omega);have e3:=fQ hkl;have e4:k*2+2<=(aG r).length:=(by rw[dF];omega);obtain⟨⟨ty,va⟩,ha⟩:∃a,r.getD k ([],[])=a:=⟨_,rfl⟩;have ham:(ty,va)∈r:=(by rw[<- ha];simp[hkl]);have htk2:(r.take (k+1)).map (avT false)=(r.take k).map (avT false)++[ty++61::eu va]:=by rw[ahw hkl];have:r[k]=(ty,va):=(by rw[<- ha];simp[hkl]);rw[this];simp[avT]
   rw[ha]at e3;simp only[qC]at e3;have hva:=hrl2.out _ ham;simp only at hva;have hva':va.length<=100000:=(by omega);have hwl:=Mk va.length va 0;have b1:(ty.length:Int)+1<=9223372036854775807:=(by omega);have b2:(ty.length:Int)+1+((eu va).length:Int)<=9223372036854775807:=(by unfold eu;omega);clear hwl ha ham hva;replace htk2:=hid htk2;have q1:(k+1)*16<=140737488355328:=(by omega);have q2:k+1<=140737488355328:=(by omega);have q3:k<=140737488355327:=(by omega);rcases hv.out with⟨rfl,hk0⟩|⟨j,⟨hk1,hBj⟩,rfl,hj⟩;replace hk0:=hid hk0;have kk1:=@hid _ (λL K=>ft hva' (L:=L) (K:=K));refine wk ?_;refine ah _ _ _ (by omega) (CutL (b:=?_)) ⟨k+1,.lsl (L.length+(Z.length+1)) 0 1 none 1,_,rfl,hkl,?_,?_,hid (.inr ⟨L.length+(Z.length+1),⟨by omega,by omega⟩,by rw[hk0.out],?_⟩),rfl,rfl⟩;have:=hXZ.out;simp;omega;have:=hXZ.out;simp;omega;rw[<- aho,ahi (ag8.1 ho2).1];exact ho2;rw[mR,mR,htk2.out,hk0.out];rfl
   .obtain⟨cur,hcur⟩:=ag2 ((r.take k).map (avT false));have hcl:cur.length=k:=(by rw[<- hcur];simp;omega);rw[hcur]at hj;have f1:(L++(Z++[Blk.cells [.str ty,.str va]]))[j]?=some (.cells (cn cur)):=by rw[<- aho,ahi (ag8.1 hj).1];exact hj
    have f2:(L++(Z++[Blk.cells [.str ty,.str va]])).set j .dead=L++(Z++[Blk.cells [.str ty,.str va]]).set (j-L.length) .dead:=s4.out _ _ _ (by omega);have f3:k<=(cn cur).length:=(by simp[hcl]);have f4:(cn cur).take k=cn cur:=aib (by simp[hcl]);replace hcur:=hid hcur;replace hcl:=hid hcl;have hjL:=hid (show j≠L.length by omega);have f2':=hid f2
    repeat' first
     |refine br ?_
     | (first|refine bh (by kernel_rfl) ?_|refine aH (by kernel_rfl) ?_|refine aK ?_|refine cO ?_|refine bB (fun _=>?_)|refine aB ?_|refine bm ?_|refine ft hva' ?_|refine bb (ft hva' ⟨rfl,rfl⟩) (ft hva' ⟨rfl,rfl⟩) ?_|refine aC (ft hva' ⟨rfl,rfl⟩) ?_)
       refine sm ?_
     | (first|refine a8 (by kernel_rfl) ?_|refine bc ?_|refine aJ ?_|refine bj ?_|refine bG (aA ?_))
       refine sl ?_
     |exact bC
     |first|apply bD|apply be|apply bE|apply bf|apply bF|apply bg
     |refine aN ?_
     |refine aI ?_
     |first|refine aL rfl ?_|refine aM rfl ?_|refine aw rfl ?_ ?_|refine aQ rfl (λ_=>?_) (λ_=>?_)|refine aP rfl (λ_=>?_) (λ_=>?_)
     |((first|refine au (λ_=>?_) (λ_=>?_)|refine az (λ_=>?_) (λ_=>?_))<;>try refine sm ?_)
     |refine And.intro trivial ?_
     |refine And.intro (by omega) ?_
     |refine aU rfl (λ_=>?_) (λ_=>?_)
     |refine And.intro ?_ ?_
    rw[hcl.out];exact ag9 _;have hA:((Z++[Blk.cells [.str ty,.str va]]).set (j-L.length) .dead).length=Z.length+1:=(by simp);refine ah _ _ _ (by omega) (CutL (b:=?_)) ⟨k+1,.lsl (L.length+(Z.length+1)) 0 (k+1) none 1,_,rfl,hkl,?_,?_,hid (.inr ⟨L.length+(Z.length+1),⟨by omega,by omega⟩,rfl,?_⟩),rfl,rfl⟩;have:=hXZ.out;simp;omega;have:=hXZ.out;simp;omega;rw[<- aho,<- f2'.out,ahi (by simp),ahx hjL.out,<- aho,ahi (ag8.1 ho2).1];exact ho2;rw[mR,<- hA,pI,htk2.out,hcur.out];simp
  have hke:k=r.length:=(by omega);subst hke;have g3:¬(r.length:Int)<(r.length:Int):=(by omega);have q4:(i+1)*16<=140737488355328:=(by omega);have q5:i+1<=140737488355328:=(by omega);have hrow:dp false r=Lib.join (r.map (avT false)) [43]:=(by simp[dp]);rw[hrow]at hjr;have htk3:(d.take (i+1)).map (dp false)=all++[Lib.join (r.map (avT false)) [43]]:=by rw[htk.out,ahE,<- hall.out,<- hrow];rfl
  have f0:(L++Z).set L.length (.spare (i+1) 1)=L++Z.set 0 (.spare (i+1) 1):=(by rw[s4.out _ _ _ (ag9 _),aiv]);have f1:(L++Z.set 0 (.spare (i+1) 1))[L.length]?=some (.spare (i+1) 1):=by rw[<- f0,ahv,if_pos rfl,if_pos (ag8.1 ho2).1]
  replace hrow:=hid hrow;replace htk3:=hid htk3;replace f1:=hid f1;rcases hv.out with⟨rfl,hk0⟩|⟨j,⟨hk1,hBj⟩,rfl,hj⟩;have hr0:r=[]:=ahH.1 hk0;replace hk0:=hid hk0;refine wk ?_;refine Ru (xs:=[]) (by simp) (by simp[Lib.join]) ?_;refine sk ?_;refine wk ?_;rw[show cn all++[AV.str (Lib.join [] [43])]=cn (all++[Lib.join [] [43]])by simp];exact ah _ _ _ (by omega) (CutL (b:=by have:=hX.out;have h0:=(ag8.1 ho2).1;simp at h0⊢;omega)) ⟨i+1,all++[Lib.join [] [43]],_,rfl,hlt,hid (by rw[htk3.out,hr0];rfl),f1.out,rfl,rfl⟩;rw[ahr]at hj;by_cases hr0:r=[];rw[hr0]at hk1;cases hk1;refine wk ?_;refine VP (xs:=r.map (avT false)) (by simp) (by simpa using hr0) (by simp;omega) hjr (by simpa using hj) ?_;refine sk ?_;refine wk ?_;rw[show cn all++[AV.str (Lib.join (r.map (avT false)) [43])]=cn (all++[Lib.join (r.map (avT false)) [43]])by simp];exact ah _ _ _ (by omega) (CutL (b:=by have h0:=(ag8.1 ho2).1;simp at h0⊢;omega)) ⟨i+1,all++[Lib.join (r.map (avT false)) [43]],_,rfl,hlt,hid htk3.out.symm,f1.out,rfl,rfl⟩
 have hke:i=d.length:=by omega
 subst hke;have g1:¬(d.length:Int)<(d.length:Int):=by omega
 have e:=hall.out;rw[ahr]at e;have h':=h.out;simp only[dY]at h' hj2;replace h':=hid h';clear hall;subst e;refine wk ?_;refine Yp (by simp) (by simp;omega) hj2 ?_;refine sk ?_;refine wk ?_;exact ae rfl h'.out
theorem WW(s:List UInt8):(bI s).length<=s.length:=by have:=pM s s.length;rwa[ahr]at this
theorem u9(s:List UInt8):(bz s).length<=s.length:=by
 have h1:=WW (af s);have h2:(af s).length=s.length:=by simp[af]
 unfold bz dk;split;simp only[List.length_dropLast];omega;omega
theorem aaU{cp:Option Nat}(he:n=xs.length)(hx:xs≠[])(hn:xs.length<=1100000)(hL:L[i]?=some (.cells (cn xs)))(h:K (.tup []) (L.set i (.cells (cn (dH xs))))):
  ag6 214 [.lsl i 0 n cp 1] L K:=by
 subst he;exact adD (rest:=[]) hx hn (by simpa using hL) (by simpa using h)
theorem S9(xs:List (List UInt8)):(dH xs).length=xs.length:=by simp[dH]
theorem adz(hn:d.length<=1000)(hr:∀r∈d,r.length<=1000/\∀a∈r,a.1.length<=10000/\a.2.length<=10000)(hj1:∀r∈d,(dp true r).length<=140737488355328)(hj2:(dY true d).length<=140737488355328)(h:K (.str (dY true d)) L):
  ag6 178 [.sl (d.map cq) d.length cap,.bool true] L K:=by
 replace h:=hid h;have hat:=hid (λk=>@LG d k);replace hr:=hid hr;replace hj1:=hid hj1;have s4:∀(W:List Blk) (j:Nat) (A:Blk),L.length<=j->(L++W).set j A=L++W.set (j-L.length) A:=λW j A hj=>ahT _ _ hj
 replace s4:=hid s4;refine ag5 Of ?_;refine bX (l:=[]) (n:=0) 5 1 rfl (ahD 1).symm ?_;refine ak (λn T' L'=>∃(i:Nat) (all:List (List UInt8)) (Z:List Blk),n=d.length-i/\i<=d.length/\Hid (all=(d.take i).map (dp true))/\L'[L.length]?=some (.spare i 1)/\T'=[(13,.int .i64 (i:Int)),(12,.int .i64 d.length),(11,.sl (d.map cq) d.length cap),(5,.gsl (cn all) i L.length 1),(1,.bool true)]/\L'=L++Z) (CutS (b:=by simp)) ⟨0,[],[.spare 0 1],rfl,ahf _,hid rfl,by simp,rfl,rfl⟩ ?_;rintro _ _ _ ⟨i,all,X,rfl,hi,hall,ho,rfl,rfl⟩;by_cases hlt:i<d.length
 .have g1:(i:Int)<(d.length:Int):=(by omega);have g2:=ag4 i (by omega);have e2:=hat.out i hlt;have hrm:d.getD i []∈d:=(by rw[ahz,ahn hlt];exact ah9 _);have hrl:=hr.out _ hrm;have hjr:=hj1.out _ hrm;obtain⟨r,hri⟩:=ag2 (d.getD i []);have htk:d.take (i+1)=d.take i++[r]:=(by rw[ahw hlt,<- hri];simp[hlt]);rw[hri]at e2 hrl hjr;clear hri hrm;obtain⟨hrl1,hrl2⟩:=hrl;replace hrl2:=hid hrl2;replace htk:=hid htk;have hX:=(ag8.1 ho).1;rw[ahq]at hX;replace hX:=hid hX;refine wk ?_;refine ak (λn T' L'=>∃(k:Nat) (v:AV) (Z:List Blk),n=r.length-k/\k<=r.length/\X.length<=Z.length/\L'[L.length]?=some (.spare i 1)/\Hid ((v=.sl [] 0 (some 0)/\k=0)\/∃j,(0<k/\L.length<j)/\v=.lsl j 0 k none 1/\L'[j]?=some (.cells (cn ((r.take k).map (avT true)))))/\T'=[(19,.int .i64 (k:Int)),(18,.int .i64 r.length),(17,cq r),(8,v),(13,.int .i64 (i:Int)),(12,.int .i64 d.length),(11,.sl (d.map cq) d.length cap),(5,.gsl (cn all) i L.length 1),(1,.bool true)]/\L'=L++Z) (CutS (b:=by simp)) ⟨0,_,X,rfl,ahf _,ag9 _,ho,hid (.inl ⟨rfl,rfl⟩),rfl,rfl⟩ ?_;rintro _ _ _ ⟨k,v,Z,rfl,hk,hXZ,ho2,hv,rfl,rfl⟩;replace hXZ:=hid hXZ;by_cases hkl:k<r.length
  .have g3:(k:Int)<(r.length:Int):=(by omega);have g4:=ag4 k (by omega);have e3:=fQ hkl;have e4:k*2+2<=(aG r).length:=(by rw[dF];omega);obtain⟨⟨ty,va⟩,ha⟩:∃a,r.getD k ([],[])=a:=⟨_,rfl⟩;have ham:(ty,va)∈r:=(by rw[<- ha];simp[hkl]);have htk2:(r.take (k+1)).map (avT true)=(r.take k).map (avT true)++[af ty++61::eu (bz va)]:=by rw[ahw hkl];have:r[k]=(ty,va):=(by rw[<- ha];simp[hkl]);rw[this];simp[avT]
   rw[ha]at e3;simp only[qC]at e3;have hva:=hrl2.out _ ham;simp only at hva;have hpl:=u9 va;have hva':(bz va).length<=100000:=(by omega);have hva2:(va.length:Int)<=100000:=(by omega);have hty2:(ty.length:Int)<=100000:=(by omega);have hwl:=Mk (bz va).length (bz va) 0;have hfl:(af ty).length=ty.length:=(by simp[af]);have b1:((af ty).length:Int)+1<=9223372036854775807:=(by omega);have b2:((af ty).length:Int)+1+((eu (bz va)).length:Int)<=9223372036854775807:=(by unfold eu;omega);clear hwl ha ham hva hfl hpl;replace htk2:=hid htk2;have q1:(k+1)*16<=140737488355328:=(by omega);have q2:k+1<=140737488355328:=(by omega);have q3:k<=140737488355327:=(by omega);rcases hv.out with⟨rfl,hk0⟩|⟨j,⟨hk1,hBj⟩,rfl,hj⟩;replace hk0:=hid hk0;have kk1:=@hid _ (λL K=>HZ hty2 (L:=L) (K:=K));have kk2:=@hid _ (λL K=>vE hva2 (L:=L) (K:=K));have kk3:=@hid _ (λL K=>ft hva' (L:=L) (K:=K));refine wk ?_;refine ah _ _ _ (by omega) (CutL (b:=?_)) ⟨k+1,.lsl (L.length+(Z.length+1)) 0 1 none 1,_,rfl,hkl,?_,?_,hid (.inr ⟨L.length+(Z.length+1),⟨by omega,by omega⟩,by rw[hk0.out],?_⟩),rfl,rfl⟩;have:=hXZ.out;simp;omega;have:=hXZ.out;simp;omega;rw[<- aho,ahi (ag8.1 ho2).1];exact ho2;rw[mR,mR,htk2.out,hk0.out];rfl
   .obtain⟨cur,hcur⟩:=ag2 ((r.take k).map (avT true));have hcl:cur.length=k:=(by rw[<- hcur];simp;omega);rw[hcur]at hj;have f1:(L++(Z++[Blk.cells [.str (af ty),.str (bz va)]]))[j]?=some (.cells (cn cur)):=by rw[<- aho,ahi (ag8.1 hj).1];exact hj
    have f2:(L++(Z++[Blk.cells [.str (af ty),.str (bz va)]])).set j .dead=L++(Z++[Blk.cells [.str (af ty),.str (bz va)]]).set (j-L.length) .dead:=s4.out _ _ _ (by omega);have f3:k<=(cn cur).length:=(by simp[hcl]);have f4:(cn cur).take k=cn cur:=aib (by simp[hcl]);replace hcur:=hid hcur;replace hcl:=hid hcl;have hjL:=hid (show j≠L.length by omega);have f2':=hid f2
    repeat' first
     |refine br ?_
     | (first|refine bh (by kernel_rfl) ?_|refine aH (by kernel_rfl) ?_|refine aK ?_|refine cO ?_|refine bB (fun _=>?_)|refine aB ?_|refine bm ?_|refine HZ hty2 ?_|refine vE hva2 ?_|refine ft hva' ?_|refine bb (HZ hty2 ⟨rfl,rfl⟩) (HZ hty2 ⟨rfl,rfl⟩) ?_|refine bb (vE hva2 ⟨rfl,rfl⟩) (vE hva2 ⟨rfl,rfl⟩) ?_|refine bb (ft hva' ⟨rfl,rfl⟩) (ft hva' ⟨rfl,rfl⟩) ?_|refine aC (HZ hty2 ⟨rfl,rfl⟩) ?_|refine aC (vE hva2 ⟨rfl,rfl⟩) ?_|refine aC (ft hva' ⟨rfl,rfl⟩) ?_)
       refine sm ?_
     | (first|refine a8 (by kernel_rfl) ?_|refine bc ?_|refine aJ ?_|refine bj ?_|refine bG (aA ?_))
       refine sl ?_
     |exact bC
     |first|apply bD|apply be|apply bE|apply bf|apply bF|apply bg
     |refine aN ?_
     |refine aI ?_
     |first|refine aL rfl ?_|refine aM rfl ?_|refine aw rfl ?_ ?_|refine aQ rfl (λ_=>?_) (λ_=>?_)|refine aP rfl (λ_=>?_) (λ_=>?_)
     |((first|refine au (λ_=>?_) (λ_=>?_)|refine az (λ_=>?_) (λ_=>?_))<;>try refine sm ?_)
     |refine And.intro trivial ?_
     |refine And.intro (by omega) ?_
     |refine aU rfl (λ_=>?_) (λ_=>?_)
     |refine And.intro ?_ ?_
    rw[hcl.out];exact ag9 _;have hA:((Z++[Blk.cells [.str (af ty),.str (bz va)]]).set (j-L.length) .dead).length=Z.length+1:=(by simp);refine ah _ _ _ (by omega) (CutL (b:=?_)) ⟨k+1,.lsl (L.length+(Z.length+1)) 0 (k+1) none 1,_,rfl,hkl,?_,?_,hid (.inr ⟨L.length+(Z.length+1),⟨by omega,by omega⟩,rfl,?_⟩),rfl,rfl⟩;have:=hXZ.out;simp;omega;have:=hXZ.out;simp;omega;rw[<- aho,<- f2'.out,ahi (by simp),ahx hjL.out,<- aho,ahi (ag8.1 ho2).1];exact ho2;rw[mR,<- hA,pI,htk2.out,hcur.out];simp
  have hke:k=r.length:=(by omega);subst hke;have g3:¬(r.length:Int)<(r.length:Int):=(by omega);have q4:(i+1)*16<=140737488355328:=(by omega);have q5:i+1<=140737488355328:=(by omega);have hrow:dp true r=Lib.join (dH (r.map (avT true))) [43]:=(by simp[dp]);rw[hrow]at hjr;have htk3:(d.take (i+1)).map (dp true)=all++[Lib.join (dH (r.map (avT true))) [43]]:=by rw[htk.out,ahE,<- hall.out,<- hrow];rfl
  replace hrow:=hid hrow;replace htk3:=hid htk3;rcases hv.out with⟨rfl,hk0⟩|⟨j,⟨hk1,hBj⟩,rfl,hj⟩;have hr0:r=[]:=ahH.1 hk0;have f0:(L++Z).set L.length (.spare (i+1) 1)=L++Z.set 0 (.spare (i+1) 1):=(by rw[s4.out _ _ _ (ag9 _),aiv]);have f1:(L++Z.set 0 (.spare (i+1) 1))[L.length]?=some (.spare (i+1) 1):=by rw[<- f0,ahv,if_pos rfl,if_pos (ag8.1 ho2).1]
  replace f1:=hid f1;replace hk0:=hid hk0;refine wk ?_;refine aaV ?_;refine sk ?_;refine wk ?_;refine Ru (xs:=[]) (by simp) (by simp[Lib.join]) ?_;refine sk ?_;refine wk ?_;rw[show cn all++[AV.str (Lib.join [] [43])]=cn (all++[Lib.join [] [43]])by simp];exact ah _ _ _ (by omega) (CutL (b:=by have:=hX.out;have h0:=(ag8.1 ho2).1;simp at h0⊢;omega)) ⟨i+1,all++[Lib.join [] [43]],_,rfl,hlt,hid (by rw[htk3.out,hr0];simp[dH]),f1.out,rfl,rfl⟩;rw[ahr]at hj;have hr0:r≠[]:=λe=>by rw[e]at hk1;cases hk1
  obtain⟨xs,hxs⟩:=ag2 (r.map (avT true));have hxl:r.length=xs.length:=(by rw[<- hxs];simp);have hxne:xs≠[]:=λe=>hr0 (by have:=hxl;rw[e]at this;exact ahH.1 this)
  rw[hxs]at hj hjr htk3;have hsl:=S9 xs;have hjl:L.length+(j-L.length)=j:=(by omega);have f2:(L++Z).set j (.cells (cn (dH xs)))=L++Z.set (j-L.length) (.cells (cn (dH xs))):=s4.out _ _ _ (by omega);have f3:(L++Z.set (j-L.length) (.cells (cn (dH xs))))[j]?=some (.cells (cn (dH xs))):=by rw[<- f2,ahv,if_pos rfl,if_pos (ag8.1 hj).1]
  have ho3:(L++Z.set (j-L.length) (.cells (cn (dH xs))))[L.length]?=some (.spare i 1):=by rw[<- f2,ahx (by omega)];exact ho2
  clear ho2;replace hj:=hid hj;generalize hZ1:Z.set (j-L.length) (.cells (cn (dH xs)))=Z1 at f2 f3 ho3;have f0:(L++Z1).set L.length (.spare (i+1) 1)=L++Z1.set 0 (.spare (i+1) 1):=(by rw[s4.out _ _ _ (ag9 _),aiv]);have f1:(L++Z1.set 0 (.spare (i+1) 1))[L.length]?=some (.spare (i+1) 1):=by rw[<- f0,ahv,if_pos rfl,if_pos (ag8.1 ho3).1]
  replace f1:=hid f1;replace f2:=hid f2;replace f3:=hid f3;replace hxs:=hid hxs;replace hxl:=hid hxl;replace hsl:=hid hsl;clear hZ1;replace hxne:=hid hxne;refine wk ?_;refine aaU hxl.out hxne.out (by have:=hxl.out;omega) hj.out ?_;rw[f2.out];refine sk ?_;refine wk ?_;refine VP (xs:=dH xs) (by rw[hsl.out];exact hxl.out) (λe=>hxne.out (by have:=hsl.out;rw[e]at this;exact ahH.1 this.symm)) (by have:=hxl.out;rw[hsl.out];omega) hjr f3.out ?_;refine sk ?_;refine wk ?_;rw[show cn all++[AV.str (Lib.join (dH xs) [43])]=cn (all++[Lib.join (dH xs) [43]])by simp];exact ah _ _ _ (by omega) (CutL (b:=by have h0:=(ag8.1 ho3).1;simp at h0⊢;omega)) ⟨i+1,all++[Lib.join (dH xs) [43]],_,rfl,hlt,hid htk3.out.symm,f1.out,rfl,rfl⟩
 have hke:i=d.length:=by omega
 subst hke;have g1:¬(d.length:Int)<(d.length:Int):=by omega
 have e:=hall.out;rw[ahr]at e;have h':=h.out;simp only[dY]at h' hj2;replace h':=hid h';clear hall;subst e;refine wk ?_;refine Yp (by simp) (by simp;omega) hj2 ?_;refine sk ?_;refine wk ?_;exact ae rfl h'.out
def HS(r:Rdn):Bool:=r.any λa=>decide (4096<a.2.length)
def NT(d:List Rdn):Bool:=d.any HS
theorem Ua:∀(t done:Rdn),dJ done t=0->done.length<=8->(done++t).length<=8/\∀a∈t,a.1.length<=32
 |[],done,_,h=>by simp;exact h
 | a::t,done,h,hd=>by
   simp only[dJ]at h;split at h
   .cases h
   .split at h
    .cases h
    .split at h
     .cases h
     .rename_i h1 h2 h3;have:=Ua t (done++[a]) h (by simp;omega);refine⟨by simpa using this.1,λb hb=>?_⟩;rcases ahc.1 hb with rfl|hb
      .exact rW (by simpa using h2)
      .exact this.2 b hb
theorem QD:∀(d:List Rdn) (i:Nat),lv i d=0->i<=32->i+d.length<=32/\∀r∈d,r.length<=8/\∀a∈r,a.1.length<=32
 |[],i,_,h=>by simp;exact h
 | r::d,i,h,hi=>by
   simp only[lv]at h;split at h
   .cases h
   .split at h
    .cases h
    .split at h
     .rename_i h3;exact absurd h h3
     .rename_i h1 h2 h3;have h3':dJ [] r=0:=(by simpa using h3);have a1:=Ua r [] h3' (by simp);have a2:=QD d (i+1) h (by omega);refine⟨by simp;omega,λq hq=>?_⟩;rcases ahc.1 hq with rfl|hq
      .exact⟨by simpa using a1.1,a1.2⟩
      .exact a2.2 q hq
theorem Ir(s:List UInt8):(eu s).length<=3*s.length:=Mk _ _ _
theorem aeC{a:Ava}(h1:a.1.length<=32)(h2:a.2.length<=4096):(avT key a).length<=20000:=by
 have e1:=Ir a.2;have e2:=Ir (bz a.2);have e3:=u9 a.2;have e4:(af a.1).length=a.1.length:=by simp[af]
 unfold avT;split;simp;omega;simp;omega
theorem Rw{B:Nat}{sep:List UInt8}:∀xs:List (List UInt8),(∀x∈xs,x.length<=B)->(Lib.join xs sep).length<=xs.length*(B+sep.length)
 |[],_=>by simp[Lib.join]
 |[x],h=>by have:=h x (by simp);simp[Lib.join,List.intercalate];omega
 | x::y::l,h=>by
   have h1:=Rw (sep:=sep) (y::l) λz hz=>h z (aii _ hz)
   have h2:=h x (by simp);have e:Lib.join (x::y::l) sep=x++(sep++Lib.join (y::l) sep):=(by simp[Lib.join,List.intercalate]);rw[e];simp only[ahq,ahj,aje]at h1⊢;omega
theorem Vo{r:Rdn}(h0:r.length<=8)(h1:∀a∈r,a.1.length<=32)(h2:∀a∈r,a.2.length<=4096):(dp key r).length<=200000:=by
 have key1:∀xs:List (List UInt8),xs.length<=8->(∀x∈xs,x.length<=20000)->(Lib.join xs [43]).length<=200000:=λxs a b=>by have c:=Rw (sep:=[43]) xs b;have d:xs.length*(20000+[(43:UInt8)].length)<=8*(20000+1):=aic _ a;omega
 have hm:∀x∈r.map (avT key),x.length<=20000:=λx hx=>by obtain⟨a,ha,rfl⟩:=ahd.1 hx;exact aeC (h1 a ha) (h2 a ha)
 unfold dp;split;refine key1 _ (by rw[S9];simpa using h0) λx hx=>hm x ?_
 exact(ajm (r.map (avT key)) _).mem_iff.1 hx;exact key1 _ (by simpa using h0) hm
theorem Vh(h0:d.length<=32)(h1:∀r∈d,(dp key r).length<=200000):(dY key d).length<=10000000:=by
 have c:=Rw (sep:=[44]) (B:=200000) (d.map (dp key)) λx hx=>by obtain⟨r,hr,rfl⟩:=ahd.1 hx;exact h1 r hr
 have e:(d.map (dp key)).length*(200000+[(44:UInt8)].length)<=32*(200000+1):=aic _ (by simpa using h0);unfold dY;omega
def prS(d:List Rdn):List UInt8×Int:=if lv 0 d≠0 then([],lv 0 d)else if NT d=true then([],5)else if 4096<(dY false d).length then([],5)else(dY false d,0)
def rX(p:List UInt8×Int):AV:=.tup [.str p.1,.int .i64 p.2]
def Rl(d:List Rdn):List UInt8×Int:=if(prS d).2≠0 then([],(prS d).2)else(dY true d,0)
def HU(s:List UInt8):List UInt8×Int:=if(vb s).2≠0 then([],(vb s).2)else Rl (vb s).1
theorem ad0(hn:d.length<=1100000)(hr:∀r∈d,r.length<=1100000)(h:K (rX (prS d)) L):
  ag6 177 [.sl (d.map cq) d.length cap] L K:=by
 have hat:=hid (λk=>@LG d k);unfold prS rX at h;refine ag5 SS ?_;refine aew hn hr ?_;by_cases hc:lv 0 d=0;rotate_left;rw[if_pos hc]at h;replace h:=hid h;refine sk ?_;refine wk ?_;exact aa h.out;rw[if_neg (by simpa using hc)]at h;obtain⟨hd32,hd8⟩:=QD d 0 hc (by omega);rw[hc];replace hd8:=hid hd8;replace h:=hid h;clear hr hn hc;refine sk ?_;refine wk ?_;refine ak (λn T' L'=>∃(i:Nat) (c:Int) (Z:List Blk),n=d.length-i/\i<=d.length/\Hid (NT (d.take i)=false/\0<=c/\c<=8*i)/\T'=[(18,.int .i64 (i:Int)),(17,.int .i64 d.length),(16,.sl (d.map cq) d.length cap),(5,.int .i64 c),(0,.sl (d.map cq) d.length cap)]/\L'=L++Z) (CutS (b:=by simp)) ⟨0,0,[],rfl,ahf _,hid ⟨rfl,by omega,by omega⟩,rfl,by simp⟩ ?_;rintro _ _ _ ⟨i,c,X,rfl,hi,hI,rfl,rfl⟩;by_cases hlt:i<d.length;have g1:(i:Int)<(d.length:Int):=by omega
 have g2:=ag4 i (by omega);have e2:=hat.out i hlt;have hrm:d.getD i []∈d:=by rw[ahz,ahn hlt];exact ah9 _
 obtain⟨r,hri⟩:=ag2 (d.getD i []);have htk:d.take (i+1)=d.take i++[r]:=by rw[ahw hlt,<- hri];simp[hlt]
 rw[hri]at e2 hrm;have hr8:=(hd8.out r hrm).1;have bad:HS r=true->K (.tup [.str [],.int .i64 5]) L:=λe=>by have h':=h.out;rw[if_pos (show NT d=true from ajD.2 ⟨r,hrm,e⟩)]at h';exact h'
 replace bad:=hid bad;replace htk:=hid htk;clear hri hrm;refine wk ?_;refine ak (λn T' L'=>∃(k:Nat) (c':Int) (Z:List Blk),n=r.length-k/\k<=r.length/\X.length<=Z.length/\Hid (HS (r.take k)=false/\c'=c+k)/\T'=[(24,.int .i64 (k:Int)),(23,.int .i64 r.length),(22,cq r),(18,.int .i64 (i:Int)),(17,.int .i64 d.length),(16,.sl (d.map cq) d.length cap),(5,.int .i64 c'),(0,.sl (d.map cq) d.length cap)]/\L'=L++Z) (CutS (b:=by simp)) ⟨0,c,X,rfl,ahf _,ag9 _,hid ⟨rfl,by omega⟩,rfl,rfl⟩ ?_;rintro _ _ _ ⟨k,c',Z,rfl,hk,hXZ,hJ,rfl,rfl⟩;replace hXZ:=hid hXZ;by_cases hkl:k<r.length;have g3:(k:Int)<(r.length:Int):=by omega
 have g4:=ag4 k (by omega);have g5:IntKind.i64.wrap (c'+1)=c'+1:=by obtain⟨_,z1,z2⟩:=hI.out;have:=hJ.out.2;exact ac (by omega) (by omega)
 have e3:=fQ hkl;have e4:k*2+2<=(aG r).length:=by rw[dF];omega
 obtain⟨⟨ty,va⟩,ha⟩:∃a,r.getD k ([],[])=a:=⟨_,rfl⟩;have ham:(ty,va)∈r:=by rw[<- ha];simp[hkl]
 have htk2:r.take (k+1)=r.take k++[(ty,va)]:=by rw[ahw hkl,<- ha];simp[hkl]
 rw[ha]at e3;simp only[qC]at e3;have Ik:4096<va.length->HS r=true:=λe=>ajD.2 ⟨_,ham,by simpa using e⟩
 replace Ik:=hid Ik;replace htk2:=hid htk2;clear ha ham;by_cases hlv:(4096:Int)<(va.length:Int);have h':=hid (bad.out (Ik.out (by omega)));refine wk ?_;exact ae rfl h'.out;refine wk ?_;refine ah _ _ _ (by omega) (CutL (b:=?_)) ⟨k+1,c'+1,_,rfl,hkl,?_,hid ⟨?_,by have:=hJ.out.2;omega⟩,rfl,rfl⟩;have:=hXZ.out;simp;omega;have:=hXZ.out;simp;omega;rw[htk2.out,HS,ajX,show(r.take k).any _=HS (r.take k)from rfl,hJ.out.1];simp;omega;have hke:k=r.length:=by omega
 subst hke;have g3:¬(r.length:Int)<(r.length:Int):=by omega
 have hlr:=hJ.out.1;rw[ahr]at hlr;replace hlr:=hid hlr;refine wk ?_;refine ah _ _ _ (by omega) (CutL (b:=by simp)) ⟨i+1,c',_,rfl,hlt,hid ⟨?_,?_,?_⟩,rfl,rfl⟩;rw[htk.out,NT,ajX,show(d.take i).any _=NT (d.take i)from rfl,hI.out.1];simp[hlr.out];obtain⟨_,z1,z2⟩:=hI.out;have:=hJ.out.2;omega;obtain⟨_,z1,z2⟩:=hI.out;have:=hJ.out.2;omega;have hke:i=d.length:=by omega
 subst hke;have g1:¬(d.length:Int)<(d.length:Int):=by omega
 have hld:=hI.out.1;rw[ahr]at hld;have h':=h.out;rw[if_neg (by rw[hld];simp)]at h';have hv:∀r∈d,∀a∈r,a.2.length<=4096:=λr hr a ha=>by have h1:=aiU.1 hld r hr;have h1':HS r=false:=(by simpa using h1);unfold HS at h1';have h2:=aiU.1 h1' a ha;simpa using h2
 have hrl:∀r∈d,(dp false r).length<=200000:=λr hr=>Vo (hd8.out r hr).1 (hd8.out r hr).2 (hv r hr)
 have htl:=Vh (by omega) hrl;replace h':=hid h';clear hld;replace hv:=hid hv;replace hrl:=hid hrl;refine wk ?_;refine adA (by omega) (λr hr=>⟨by have:=(hd8.out r hr).1;omega,λa ha=>⟨by have:=(hd8.out r hr).2 a ha;omega,by have:=hv.out r hr a ha;omega⟩⟩) (λr hr=>by have:=hrl.out r hr;omega) (by omega) ?_;by_cases hlg:4096<(dY false d).length;have k1:(4096:Int)<((dY false d).length:Int):=by omega
 have h2:=h'.out;rw[if_pos hlg]at h2;replace h2:=hid h2;clear hlg;refine sk ?_;refine wk ?_;exact ae rfl h2.out;have k1:¬(4096:Int)<((dY false d).length:Int):=by omega
 have h2:=h'.out;rw[if_neg hlg]at h2;replace h2:=hid h2;clear hlg;refine sk ?_;refine wk ?_;exact ae rfl h2.out
theorem abm(h:(prS d).2=0):d.length<=32/\∀r∈d,r.length<=8/\∀a∈r,a.1.length<=32/\a.2.length<=4096:=by
 unfold prS at h;split at h;rename_i hc;exact absurd h hc;rename_i hc;split at h;cases h;rename_i hl;have h0:lv 0 d=0:=by simpa using hc
 obtain⟨h1,h2⟩:=QD d 0 h0 (by omega);have hld:NT d=false:=by simpa using hl
 refine⟨by omega,λr hr=>⟨(h2 r hr).1,λa ha=>⟨(h2 r hr).2 a ha,?_⟩⟩⟩;have k1:=aiU.1 hld r hr;have k1':HS r=false:=by simpa using k1
 unfold HS at k1';have k2:=aiU.1 k1' a ha;simpa using k2
theorem afs(hn:d.length<=1100000)(hr:∀r∈d,r.length<=1100000)(h:K (rX (Rl d)) L):
  ag6 140 [.sl (d.map cq) d.length cap] L K:=by
 unfold Rl rX at h;refine ag5 U0 ?_;refine ad0 hn hr ?_;unfold rX;obtain⟨⟨ps,pe⟩,hp⟩:∃p,prS d=p:=⟨_,rfl⟩;rw[hp]at h⊢;simp only at h⊢;by_cases h0:pe=0;subst h0;obtain⟨q1,q2⟩:=abm (by rw[hp]);rw[if_neg (by simp)]at h;have hrl:∀r∈d,(dp true r).length<=200000:=λr hr=>Vo (q2 r hr).1 (λa ha=>((q2 r hr).2 a ha).1) (λa ha=>((q2 r hr).2 a ha).2)
 have htl:=Vh (by omega) hrl;replace h:=hid h;replace q2:=hid q2;replace hrl:=hid hrl;clear hp hr;refine sk ?_;refine wk ?_;refine adz (by omega) (λr hr=>⟨by have:=(q2.out r hr).1;omega,λa ha=>⟨by have:=((q2.out r hr).2 a ha).1;omega,by have:=((q2.out r hr).2 a ha).2;omega⟩⟩) (λr hr=>by have:=hrl.out r hr;omega) (by omega) ?_;refine sk ?_;refine wk ?_;exact aa h.out;rw[if_pos h0]at h;replace h:=hid h;clear hp hr;refine sk ?_;refine wk ?_;exact aa h.out
theorem Uw:∀(f:Nat) (out:List Rdn) (now:Rdn) (s:List UInt8),out.length<=32->now.length<=8->(∀r∈out,r.length<=8)->(qB f out now s).1.length<=33/\∀r∈(qB f out now s).1,r.length<=8
 |0,_,_,_,_,_,_=>by simp[qB]
 | f+1,out,now,s,h1,h2,h3=>by
   rw[qB];split
   .simp
   rename_i hlim;have hrow:∀t v:List UInt8,(now++[(t,v)]).length<=8:=λt v=>by simp;omega
   have hout:∀t v:List UInt8,∀r∈out++[now++[(t,v)]],r.length<=8:=λt v r hr=>by
    rcases ahb.1 hr with h|h
    .exact h3 r h
    .rw[ahs.1 h];exact hrow t v
   split
   .simp
   split
   .simp
   split
   .simp
   split
   .simp
   split
   .simp
   split
   .exact⟨by simp;omega,hout _ _⟩
   split
   .exact Uw f _ _ _ (by simp;omega) (by simp) (hout _ _)
   .exact Uw f _ _ _ h1 (hrow _ _) h3
theorem Yi(s:List UInt8):(vb s).1.length<=33/\∀r∈(vb s).1,r.length<=8:=by unfold vb;split;simp;split;simp;exact Uw _ _ _ _ (by simp) (by simp) (by simp)
theorem aeZ{s:List UInt8}(h:K (rX (HU s)) L):ag6 100 [.str s] L K:=by unfold HU at h;refine ag5 Wq ?_;refine ad3 ?_;obtain⟨q1,q2⟩:=Yi s;obtain⟨⟨pd,pe⟩,hp⟩:∃p,vb s=p:=⟨_,rfl⟩;rw[hp]at h q1 q2⊢;simp only[W2]at h q1 q2⊢;clear hp;by_cases h0:pe=0;subst h0;rw[if_neg (by simp)]at h;replace h:=hid h;replace q2:=hid q2;refine sk ?_;refine wk ?_;refine afs (by omega) (λr hr=>by have:=q2.out r hr;omega) ?_;have h':=h.out;unfold rX at h'⊢;replace h':=hid h';refine sk ?_;refine wk ?_;exact aa h'.out;rw[if_pos h0]at h;unfold rX at h;replace h:=hid h;clear q1 q2;refine sk ?_;refine wk ?_;exact aa h.out
end Go.Proofs.YtcmfcpjnhephaaaGreatDoor.Av
set_option maxRecDepth 100000
namespace Go.Proofs.YtcmfcpjnhephaaaGreatDoor.Av
open Go
def qQ:LSO:=[A4 1 0,Af 2]
def qP:LSO:=[Ab 10 1 1,Au 11 10,AF 12 11 15,Aa 13 12,.grp none 13 false
 [AI 14 13 1 1,BS 15 13 14 14,og 16 13 false (.bin .neq (tm 15) (.av (.int .u8 90)))]
 17 (tm 16)]
def qO:LSO:=[Af 2]
def qN:LSO:=[Ab 18 1 1,o1 19 (.slS (tm 18) none (some (iv 14))),o1 20 (.s2b (tm 19)),Am 21 20,Ac 22 0]
def qM:LSO:=[Al 23 22 21]
def qL:LSO:=[An 24 1 20 22,Ab 25 1 24,Aa 4 25]
def qK:LSO:=[Aa 26 4,o1 27 (.bin .lss (tm 26) (.av (.int .u8 48))),Aa 28 27,.grp none 28 false
 [Ah 29 28 4,og 30 28 false (.bin .gtr (tm 29) (.av (.int .u8 57)))]
 31 (tm 30)]
def qJ:LSO:=[Af 2]
def qI:LSO:=[Ag 32 22 1,Aa 22 32]
def qH:LSO:=[o1 33 (.mkfn 141 [(tm 1)]),Aa 5 33]
def p7:LSO:=[Aa 34 5,BE 35 34 0,o1 36 (.bin .mul (tm 35) (iv 100)),Aa 37 5,BE 38 37 2,AY 39 36 38,Aa 40 5,BE 41 40 4,Aa 42 5,BE 43 42 6,Aa 6 39,Aa 7 41,Aa 8 43]
def p6:LSO:=[Aa 44 7,AH 45 44 1,Aa 46 45,.grp none 46 false
 [Ah 47 46 7,A9 48 46 47 12]
 49 (tm 48),Aa 50 49,.grp none 50 false
 [Ah 51 50 8,BT 52 50 51 1]
 53 (tm 52),Aa 54 53,.grp none 54 false
 [Ah 55 54 5,BU 56 54 55 8,A9 57 54 56 23]
 58 (tm 57),Aa 59 58,.grp none 59 false
 [Ah 60 59 5,BU 61 59 60 10,A9 62 59 61 59]
 63 (tm 62),Aa 64 63,.grp none 64 false
 [Ah 65 64 5,BU 66 64 65 12,A9 67 64 66 59]
 68 (tm 67)]
def p5:LSO:=[Af 2]
def p0:LSO:=[Aa 69 7,Bi 70 69 1,o1 71 (.iaddrA 12 1 (.av (.gptr 2 0)) (tm 70)),Ab 72 1 71,Aa 9 72]
def pZ:LSO:=[Aa 73 7,Aq 74 73 2,Aa 75 74,.grp none 75 true
 [Ae 76 75 6,BF 77 75 76 4,Bb 78 75 77 0,Ae 79 75 78,.grp (some (75,true)) 79 true
 [Ae 80 79 6,BF 81 79 80 100,BV 82 79 81 0]
 83 (tm 82),Ae 84 75 83,.grp (some (75,true)) 84 false
 [Ah 85 84 6,og 86 84 false (.bin .rem (tm 85) (iv 400)),AM 87 84 86 0]
 88 (tm 87)]
 89 (tm 88)]
def pY:LSO:=[Aa 90 9,Ag 91 90 1,Aa 9 91]
def pX:LSO:=[Aa 92 8,Aa 93 9,o1 94 (.bin .leq (tm 92) (tm 93)),Aa 2 94]
def oQ:aO:=⟨95,(akg qQ [] (.seq (akg qP Ct (aki 17 (.sreg qO []))) (.seq (akg qN CL (akj 0 (akg qM [] (.seq (akk 23 0) (.seq (.block 1 (akg qL Cr (akg qK Cs (aki 31 (.sreg qJ []))))) (.sreg qI Cq)))))) (akg qH Cq (akg p7 [true,true,true,false,false,false,false,false,false,false,false,false,false] (.seq (akg p6 C6 (aki 68 (.sreg p5 []))) (akg p0 Ct (.seq (akg pZ Cs (akh 89 (.sreg pY Cr) .skip)) (akg pX Cs .ret))))))))),[(.tmp 2)]⟩
attribute [push_cast] qQ qP qO qN qM qL qK qJ qI qH p7 p6 p5 p0 pZ pY pX
theorem LY:akl 101=akm oQ:=by kernel_rfl
def oX:LSO:=[Ac 3 0]
def oW:LSO:=[Ab 4 1 1,Aa 5 0,AA 6 4 5,BG 7 6,Bn 8 7,o1 9 (.bin .mul (tm 8) (iv 10)),Ab 10 1 1,Aa 11 0,Ag 12 11 1,AA 13 10 12,BG 14 13,Bn 15 14,AY 16 9 15,
 Aa 3 16]
def kZ:aO:=⟨17,(akg oX [] (.seq (.sdreg oW [(.read 0 0),.pure,(.read 0 0),.pure,.pure,.pure,(.read 0 0),.pure,.pure,(.read 0 0),.pure,.pure] CR) .ret)),[(.tmp 3)]⟩
attribute [push_cast] oX oW
theorem H3:akl 141=akm kZ:=by kernel_rfl
def qG:LSO:=[Ac 2 0,Af 3]
def qF:LSO:=[Aa 7 0,o1 8 (.call 137 [(tm 7),(iv 10),(iv 64)]),Aa 6 8,Ar 9 6,Aw 10 6,Aa 4 9,Aa 5 10]
def qE:LSO:=[Aa 11 4,Aa 12 5,o1 13 (.eqk false .iface (tm 12) (.av .nilif)),Aa 14 13,.grp none 14 true
 [Ae 15 14 4,og 16 14 true (.call 138 [(tm 15),(iv 10)]),Ae 17 14 0,BW 18 14 16 17]
 19 (tm 18),Aa 2 11,Aa 3 19]
def oP:aO:=⟨20,(akg qG [] (akg qF CB (akg qE CB .ret))),[(.tmp 2),(.tmp 3)]⟩
attribute [push_cast] qG qF qE
theorem LX:akl 99=akm oP:=by kernel_rfl
def qS:LSO:=[Af 2]
def qR:LSO:=[Aa 3 0,o1 4 (.bin .geq (tm 3) (.av (.int .i32 128))),Aa 2 4]
def oR:aO:=⟨5,(akg qS [] (akg qR Cr .ret)),[(.tmp 2)]⟩
attribute [push_cast] qS qR
theorem LZ:akl 98=akm oR:=by kernel_rfl
def lL:LSO:=[Ac 4 0]
def lK:LSO:=[Aa 5 0,Aa 6 1,o1 7 (.call 136 [(tm 5),(tm 6),(.av (.bool true))]),Aa 4 7]
def gu:aO:=⟨8,(akg lL [] (akg lK Cs .ret)),[(.tmp 4)]⟩
attribute [push_cast] lL lK
theorem vT:akl 97=akm gu:=by kernel_rfl
def lJ:LSO:=[Ac 6 0]
def lI:LSO:=[Aa 9 0,o1 10 (.rangeS (tm 9))]
def lH:LSO:=[o1 11 (.nextS (tm 10)),Ar 12 11]
def lG:LSO:=[Aw 13 11,Bo 14 11,Aa 7 13,Aa 8 14]
def lF:LSO:=[Aa 15 1,Aa 16 8,Bw 17 15 16,Aa 18 2,o1 19 (.eqk false .bool (tm 17) (tm 18))]
def lE:LSO:=[Aa 20 7,Aa 6 20]
def lD:LSO:=[Ac 6 (-1)]
def gr:aO:=⟨21,(akg lJ [] (.seq (akg lI Cq (akj 0 (akg lH [] (.seq (akk 12 0) (.block 1 (akg lG C7 (akg lF Ct (aki 19 (.sreg lE Cq))))))))) (akg lD [] .ret))),[(.tmp 6)]⟩
attribute [push_cast] lJ lI lH lG lF lE lD
theorem vS:akl 136=akm gr:=by kernel_rfl
def JJ:LSO:=[Af 2]
def JI:LSO:=[Aa 7 0,Au 8 7,A3 9 8 0]
def JH:LSO:=[Aa 10 0,Bx 11 10 0,Bn 12 11,Aa 3 12]
def JG:LSO:=[Ac 4 1]
def JF:LSO:=[Aa 13 3,Bj 14 13 240]
def JE:LSO:=[Ac 4 4]
def JD:LSO:=[Aa 15 3,Bi 16 15 240,Aa 3 16]
def JC:LSO:=[Aa 17 3,Bj 18 17 224]
def JB:LSO:=[Ac 4 3]
def JA:LSO:=[Aa 19 3,Bi 20 19 224,Aa 3 20]
def Fm:LSO:=[Aa 21 3,Bj 22 21 192]
def Fl:LSO:=[Ac 4 2]
def Fk:LSO:=[Aa 23 3,Bi 24 23 192,Aa 3 24]
def Fj:LSO:=[Aa 25 3,Bj 26 25 128]
def Fi:LSO:=[Af 2]
def Fh:LSO:=[Aa 27 0,Au 28 27,Aa 29 4,Al 30 28 29]
def Fg:LSO:=[Af 2]
def Ff:LSO:=[Ac 5 1]
def Fe:LSO:=[Aa 31 5,Aa 32 4,Al 33 31 32]
def Fd:LSO:=[Aa 36 0,Aa 37 5,AA 38 36 37,Bn 39 38,Aa 6 39]
def Fc:LSO:=[Aa 40 6,AH 41 40 128,Aa 42 41,.grp none 42 false
 [Ah 43 42 6,BH 44 42 43 192]
 45 (tm 44)]
def Fb:LSO:=[Af 2]
def Fa:LSO:=[Aa 46 3,o1 47 (.bin .mul (tm 46) (iv 64)),Aa 48 6,AY 49 47 48,Bi 50 49 128,Aa 3 50]
def E9:LSO:=[Aa 34 5,Ag 35 34 1,Aa 5 35]
def E8:LSO:=[Aa 51 4,Aq 52 51 2,Aa 53 52,.grp none 53 true
 [Ae 54 53 3,By 55 53 54 128]
 56 (tm 55),Aa 57 56,.grp none 57 false
 [Ah 58 57 4,AM 59 57 58 3,Ah 60 57 59,.grp (some (57,false)) 60 true
 [Ae 61 60 3,By 62 60 61 2048]
 63 (tm 62)]
 64 (tm 63),Aa 65 64,.grp none 65 false
 [Ah 66 65 4,AM 67 65 66 4,Ah 68 65 67,.grp (some (65,false)) 68 true
 [Ae 69 68 3,By 70 68 69 65536]
 71 (tm 70)]
 72 (tm 71),Aa 73 72,.grp none 73 false
 [Ah 74 73 3,A9 75 73 74 1114111]
 76 (tm 75),Aa 77 76,.grp none 77 false
 [Ah 78 77 3,BH 79 77 78 55296,Ah 80 77 79,.grp (some (77,false)) 80 true
 [Ae 81 80 3,By 82 80 81 57344]
 83 (tm 82)]
 84 (tm 83)]
def E7:LSO:=[Af 2]
def E6:LSO:=[Aa 85 0,Aa 86 4,BX 87 85 86,Aa 0 87]
def E5:LSO:=[A0 2]
def H9:aO:=⟨88,(akg JJ [] (.seq (akj 0 (.seq (akg JI Cr (akk 9 0)) (.block 1 (akg JH Cs (akg JG [] (.seq (akg JF Cq (akh 14 (akg JE [] (.sreg JD Cr)) (akg JC Cq (akh 18 (akg JB [] (.sreg JA Cr)) (akg Fm Cq (akh 22 (akg Fl [] (.sreg Fk Cr)) (akg Fj Cq (aki 26 (.sreg Fi []))))))))) (.seq (akg Fh Cs (aki 30 (.sreg Fg []))) (.seq (akg Ff [] (akj 2 (.seq (akg Fe Cr (akk 33 2)) (.seq (.block 3 (akg Fd Ct (.seq (akg Fc Cs (aki 45 (.sreg Fb []))) (.sreg Fa Cu)))) (.sreg E9 Cr))))) (.seq (akg E8 C6 (aki 84 (.sreg E7 []))) (.sreg E6 Cs)))))))))) (akg E5 [] .ret))),[(.tmp 2)]⟩
attribute [push_cast] JJ JI JH JG JF JE JD JC JB JA Fm Fl Fk Fj Fi Fh Fg Ff Fe Fd Fc Fb Fa E9 E8 E7 E6 E5
theorem R4:akl 89=akm H9:=by kernel_rfl
def tu:LSO:=[Af 2]
def tt:LSO:=[Ac 3 0]
def tq:LSO:=[Aa 4 3,Aa 5 0,Au 6 5,Al 7 4 6]
def tn:LSO:=[Aa 10 0,Aa 11 3,AA 12 10 11,o1 13 (.bin .lss (tm 12) (.av (.int .u8 48))),Aa 14 13,.grp none 14 false
 [Ah 15 14 0,Ah 16 14 3,Bp 17 14 15 16,og 18 14 false (.bin .gtr (tm 17) (.av (.int .u8 57)))]
 19 (tm 18)]
def tj:LSO:=[Af 2]
def ti:LSO:=[Aa 8 3,Ag 9 8 1,Aa 3 9]
def th:LSO:=[Aa 20 0,Au 21 20,A3 22 21 0,Aa 2 22]
def qt:aO:=⟨23,(akg tu [] (.seq (akg tt [] (akj 0 (.seq (akg tq Cs (akk 7 0)) (.seq (.block 1 (akg tn Cu (aki 19 (.sreg tj [])))) (.sreg ti Cr))))) (akg th Cs .ret))),[(.tmp 2)]⟩
attribute [push_cast] tu tt tq tn tj ti th
theorem Oe:akl 130=akm qt:=by kernel_rfl
def sS:LSO:=[Af 2]
def sR:LSO:=[Aa 4 0,o1 5 (.bin .eql (tm 4) (.av (.str [48])))]
def sQ:LSO:=[A0 2]
def sP:LSO:=[o1 3 (.mv (.av (.str [57,50,50,51,51,55,50,48,51,54,56,53,52,55,55,53,56,48,55])))]
def sO:LSO:=[Aa 6 0,Au 7 6,A3 8 7 0,Aa 9 8,.grp none 9 true
 [Ae 10 9 0,og 11 9 true (.idxS (tm 10) (iv 0)),og 12 9 true (.bin .eql (tm 11) (.av (.int .u8 45)))]
 13 (tm 12)]
def sN:LSO:=[Aa 14 0,o1 15 (.slS (tm 14) (some (iv 1)) none),Aa 0 15]
def sM:LSO:=[o1 3 (.mv (.av (.str [57,50,50,51,51,55,50,48,51,54,56,53,52,55,55,53,56,48,56])))]
def sL:LSO:=[Aa 16 0,Ak 17 130 16,Aa 18 17,.grp none 18 true
 [Ae 19 18 0,og 20 18 true (.idxS (tm 19) (iv 0)),og 21 18 true (.bin .neq (tm 20) (.av (.int .u8 48)))]
 22 (tm 21),Aa 23 22,.grp none 23 true
 [Ae 24 23 0,BI 25 23 24,By 26 23 25 19,Ae 27 23 26,.grp (some (23,true)) 27 false
 [Ah 28 27 0,Bq 29 27 28,AM 30 27 29 19,Ah 31 27 30,.grp (some (27,false)) 31 true
 [Ae 32 31 0,Ae 33 31 3,BY 34 31 32 33]
 35 (tm 34)]
 36 (tm 35)]
 37 (tm 36),Aa 2 37]
def qo:aO:=⟨38,(akg sS [] (.seq (akg sR Cq (aki 5 (.sreg sQ []))) (akg sP [] (.seq (akg sO Ct (akh 13 (akg sN Cr (.sreg sM [])) .skip)) (akg sL Cw .ret))))),[(.tmp 2)]⟩
attribute [push_cast] sS sR sQ sP sO sN sM sL
theorem Oc:akl 91=akm qo:=by kernel_rfl
def JQ:LSO:=[Ac 2 0]
def JP:LSO:=[Ac 3 0]
def JO:LSO:=[Ac 4 0]
def JN:LSO:=[Aa 5 4,Aa 6 0,Au 7 6,Al 8 5 7]
def JM:LSO:=[Aa 11 3,o1 12 (.bin .mul (iv 10) (tm 11)),Aa 13 0,Aa 14 4,AA 15 13 14,BG 16 15,Bn 17 16,AY 18 12 17,Aa 3 18]
def JL:LSO:=[Aa 9 4,Ag 10 9 1,Aa 4 10]
def JK:LSO:=[Aa 19 3,Aa 2 19]
def Ia:aO:=⟨20,(akg JQ [] (akg JP [] (.seq (akg JO [] (akj 0 (.seq (akg JN Cs (akk 8 0)) (.seq (.block 1 (.sreg JM CC)) (.sreg JL Cr))))) (akg JK Cq .ret)))),[(.tmp 2)]⟩
attribute [push_cast] JQ JP JO JN JM JL JK
theorem R5:akl 133=akm Ia:=by kernel_rfl
def tf:LSO:=[Af 2]
def td:LSO:=[Aa 7 0,Au 8 7,AF 9 8 15,Aa 10 9,.grp none 10 false
 [Ah 11 10 0,og 12 10 false (.slS (tm 11) none (some (iv 14))),AZ 13 10 130 12,Bk 14 10 13]
 15 (tm 14),Aa 16 15,.grp none 16 false
 [Ah 17 16 0,BS 18 16 17 14,og 19 16 false (.bin .neq (tm 18) (.av (.int .u8 90)))]
 20 (tm 19)]
def ta:LSO:=[Af 2]
def sZ:LSO:=[Aa 21 0,o1 22 (.slS (tm 21) none (some (iv 4))),Ak 23 133 22,Aa 24 0,o1 25 (.slS (tm 24) (some (iv 4)) (some (iv 6))),Ak 26 133 25,Aa 27 0,
 o1 28 (.slS (tm 27) (some (iv 6)) (some (iv 8))),Ak 29 133 28,Aa 3 23,Aa 4 26,Aa 5 29]
def sY:LSO:=[Aa 30 4,AH 31 30 1,Aa 32 31,.grp none 32 false
 [Ah 33 32 4,A9 34 32 33 12]
 35 (tm 34),Aa 36 35,.grp none 36 false
 [Ah 37 36 5,BT 38 36 37 1]
 39 (tm 38),Aa 40 39,.grp none 40 false
 [Ah 41 40 0,BZ 42 40 41 8 10,AZ 43 40 133 42,A9 44 40 43 23]
 45 (tm 44),Aa 46 45,.grp none 46 false
 [Ah 47 46 0,BZ 48 46 47 10 12,AZ 49 46 133 48,A9 50 46 49 59]
 51 (tm 50),Aa 52 51,.grp none 52 false
 [Ah 53 52 0,BZ 54 52 53 12 14,AZ 55 52 133 54,A9 56 52 55 59]
 57 (tm 56)]
def sX:LSO:=[Af 2]
def sW:LSO:=[Ac 6 31]
def sV:LSO:=[Aa 58 4,Aq 59 58 4,Aa 60 59,.grp none 60 false
 [Ah 61 60 4,AM 62 60 61 6]
 63 (tm 62),Aa 64 63,.grp none 64 false
 [Ah 65 64 4,AM 66 64 65 9]
 67 (tm 66),Aa 68 67,.grp none 68 false
 [Ah 69 68 4,AM 70 68 69 11]
 71 (tm 70)]
def sU:LSO:=[Ac 6 30]
def sT:LSO:=[Aa 72 4,Aq 73 72 2]
def qW:LSO:=[Ac 6 28]
def qV:LSO:=[Aa 74 3,o1 75 (.bin .rem (tm 74) (iv 400)),Aq 76 75 0,Aa 77 76,.grp none 77 false
 [Ah 78 77 3,og 79 77 false (.bin .rem (tm 78) (iv 4)),AM 80 77 79 0,Ah 81 77 80,.grp (some (77,false)) 81 true
 [Ae 82 81 3,BF 83 81 82 100,BV 84 81 83 0]
 85 (tm 84)]
 86 (tm 85)]
def qU:LSO:=[Ac 6 29]
def qT:LSO:=[Aa 87 5,Aa 88 6,o1 89 (.bin .leq (tm 87) (tm 88)),Aa 2 89]
def qq:aO:=⟨90,(akg tf [] (.seq (akg td Cw (aki 20 (.sreg ta []))) (.seq (.sdreg sZ [.pure,(.read 0 0),(.read 0 0),.pure,(.read 0 0),(.read 0 0),.pure,(.read 0 0)] CS) (.seq (akg sY C6 (aki 57 (.sreg sX []))) (akg sW [] (.seq (akg sV Cx (akh 71 (.sreg sU []) .skip)) (.seq (akg sT Cq (akh 73 (akg qW [] (akg qV Ct (akh 86 (.sreg qU []) .skip))) .skip)) (akg qT Cs .ret)))))))),[(.tmp 2)]⟩
attribute [push_cast] tf td ta sZ sY sX sW sV sU sT qW qV qU qT
theorem Od:akl 93=akm qq:=by kernel_rfl
def Fy:LSO:=[Ao 4,Af 5]
def Fx:LSO:=[Aa 9 1,Au 10 9,A3 11 10 4096]
def Fw:LSO:=[Ao 4,Af 5]
def Fv:LSO:=[Aa 12 0]
def Fu:LSO:=[Aq 14 12 1,Aa 13 14]
def Fs:LSO:=[Aa 15 1,Au 16 15,A3 17 16 0,Aa 18 17,.grp none 18 true
 [Ae 19 18 1,AJ 20 18 89 19]
 21 (tm 20)]
def Fq:LSO:=[Aa 22 1,Ak 23 90 22,Aa 4 23,A0 5]
def Fp:LSO:=[Aq 25 12 2,Aa 24 25]
def Fo:LSO:=[Aa 26 1,Au 27 26,A3 28 27 0,Aa 29 28,.grp none 29 true
 [Ae 30 29 1,AJ 31 29 89 30]
 32 (tm 31)]
def Fn:LSO:=[Aa 33 1,Aa 4 33,A0 5]
def xP:LSO:=[Aq 35 12 3,Aa 34 35]
def xO:LSO:=[Ac 6 0]
def xN:LSO:=[Aa 36 6,Aa 37 1,Au 38 37,Al 39 36 38]
def xM:LSO:=[Aa 42 1,Aa 43 6,AA 44 42 43,o1 45 (.bin .geq (tm 44) (.av (.int .u8 128)))]
def xL:LSO:=[Ao 4,Af 5]
def xK:LSO:=[Aa 40 6,Ag 41 40 1,Aa 6 41]
def xJ:LSO:=[Aa 46 1,Ak 47 90 46,Aa 4 47,A0 5]
def xI:LSO:=[Aq 49 12 4,Aa 48 49]
def xH:LSO:=[Aa 50 1,Ak 51 91 50]
def xG:LSO:=[Aa 52 1,Aa 4 52,A0 5]
def xF:LSO:=[Aq 54 12 5,Aa 53 54]
def xE:LSO:=[Aa 55 1,o1 56 (.bin .eql (tm 55) (.av (.str [84,82,85,69]))),Aa 57 56,.grp none 57 false
 [Ah 58 57 1,og 59 57 false (.bin .eql (tm 58) (.av (.str [70,65,76,83,69])))]
 60 (tm 59)]
def xD:LSO:=[Aa 61 1,Aa 4 61,A0 5]
def xC:LSO:=[Aq 63 12 6,Aa 62 63]
def xB:LSO:=[Aa 65 1,Ak 66 92 65,Aa 64 66,Ar 67 64,Aw 68 64,Aa 7 67,Aa 8 68]
def xA:LSO:=[Aa 69 8,Aq 70 69 0]
def xz:LSO:=[Aa 71 7,Aa 4 71,A0 5]
def xy:LSO:=[Aq 73 12 7,Aa 72 73]
def xx:LSO:=[Aa 74 1,Aa 4 74,A0 5]
def xw:LSO:=[Aq 76 12 8,Aa 75 76]
def xv:LSO:=[Aa 77 1,Ak 78 93 77]
def xu:LSO:=[Aa 79 1,Aa 4 79,A0 5]
def xt:LSO:=[Ao 4,Af 5]
def vZ:aO:=⟨80,(akg Fy [] (.seq (akg Fx Cr (aki 11 (.sreg Fw []))) (.seq (akg Fv [] (.block 0 (akg Fu Cq (akh 13 (akg Fs Ct (aki 21 (.sreg Fq C7))) (akg Fp Cq (akh 24 (akg Fo Ct (aki 32 (.sreg Fn Cv))) (akg xP Cq (akh 34 (.seq (akg xO [] (akj 1 (.seq (akg xN Cs (akk 39 1)) (.seq (.block 2 (akg xM Cs (aki 45 (.sreg xL [])))) (.sreg xK Cr))))) (akg xJ C7 .ret)) (akg xI Cq (akh 48 (akg xH Cq (aki 51 (.sreg xG Cv))) (akg xF Cq (akh 53 (akg xE Cs (aki 60 (.sreg xD Cv))) (akg xC Cq (akh 62 (akg xB CB (akg xA Cq (aki 70 (.sreg xz Cv)))) (akg xy Cq (akh 72 (akg xx Cv .ret) (akg xw Cq (akh 75 (akg xv Cq (aki 78 (.sreg xu Cv))) .skip)))))))))))))))))) (akg xt [] .ret)))),[(.tmp 4),(.tmp 5)]⟩
attribute [push_cast] Fy Fx Fw Fv Fu Fs Fq Fp Fo Fn xP xO xN xM xL xK xJ xI xH xG xF xE xD xC xB xA xz xy xx xw xv xu xt
theorem Qh:akl 45=akm vZ:=by kernel_rfl
def wA:LSO:=[Ao 4,Af 5]
def wz:LSO:=[Aa 10 1,Au 11 10,A3 12 11 4096]
def wy:LSO:=[Ao 4,Af 5]
def ww:LSO:=[Aa 13 1,Aa 6 13,Af 7]
def wu:LSO:=[Aa 14 0]
def wt:LSO:=[Aq 16 14 1,Aa 15 16]
def wr:LSO:=[Aa 17 1,Ak 18 95 17,Aa 19 1,Ca 20 19,Aa 21 20,.grp none 21 true
 [Ae 22 21 1,AJ 23 21 96 22]
 24 (tm 23),Aa 6 18,Aa 7 24]
def wq:LSO:=[Aq 26 14 2,Aa 25 26]
def wp:LSO:=[Aa 27 1,Ca 28 27,Aa 29 28,.grp none 29 true
 [Ae 30 29 1,AJ 31 29 96 30]
 32 (tm 31),Aa 7 32]
def wo:LSO:=[Aq 34 14 3,Aa 33 34]
def sB:LSO:=[Aa 35 1,Ak 36 95 35,Aa 37 1,o1 38 (.call 97 [(tm 37),(.av (.func 98 []))]),AH 39 38 0,Aa 6 36,Aa 7 39]
def sA:LSO:=[Aq 41 14 4,Aa 40 41]
def sy:LSO:=[Aa 43 1,Ak 44 99 43,Aa 42 44,Ar 45 42,Aw 46 42,Aa 7 46]
def sx:LSO:=[Aq 48 14 5,Aa 47 48]
def sw:LSO:=[Aa 49 1,o1 50 (.bin .eql (tm 49) (.av (.str [84,82,85,69]))),Aa 51 50,.grp none 51 false
 [Ah 52 51 1,og 53 51 false (.bin .eql (tm 52) (.av (.str [70,65,76,83,69])))]
 54 (tm 53),Aa 7 54]
def sv:LSO:=[Aq 56 14 6,Aa 55 56]
def su:LSO:=[Aa 58 1,Ak 59 100 58,Aa 57 59,Ar 60 57,Aw 61 57,Aa 8 60,Aa 9 61]
def sq:LSO:=[Aa 62 8,Aa 63 9,Aq 64 63 0,Aa 6 62,Aa 7 64]
def sn:LSO:=[Aq 66 14 7,Aa 65 66]
def sj:LSO:=[A0 7]
def si:LSO:=[Aq 68 14 8,Aa 67 68]
def sh:LSO:=[Aa 69 1,Ak 70 101 69,Aa 7 70]
def sg:LSO:=[Aa 71 7,Ay 72 71]
def sf:LSO:=[Ao 4,Af 5]
def se:LSO:=[Aa 73 6,Aa 4 73,A0 5]
def rA:aO:=⟨74,(akg wA [] (.seq (akg wz Cr (aki 12 (.sreg wy []))) (akg ww Cv (.seq (akg wu [] (.block 0 (akg wt Cq (akh 15 (.sreg wr C4) (akg wq Cq (akh 25 (.sreg wp Ct) (akg wo Cq (akh 33 (.sreg sB CB) (akg sA Cq (akh 40 (.sreg sy Cu) (akg sx Cq (akh 47 (.sreg sw Ct) (akg sv Cq (akh 55 (akg su CB (.sreg sq Cz)) (akg sn Cq (akh 65 (.sreg sj []) (akg si Cq (akh 67 (.sreg sh Cr) .skip)))))))))))))))))) (.seq (akg sg Cq (aki 72 (.sreg sf []))) (akg se Cv .ret)))))),[(.tmp 4),(.tmp 5)]⟩
attribute [push_cast] wA wz wy ww wu wt wr wq wp wo sB sA sy sx sw sv su sq sn sj si sh sg sf se
theorem OW:akl 48=akm rA:=by kernel_rfl
attribute [push_cast] kZ oR gu gr H9 qt Ia
variable {L:List Blk}{K:ag7}
set_option maxHeartbeats 8000000
set_option maxRecDepth 100000
theorem Yj{x:Int}{L:List Blk}{K:ag7}(h:K (.bool (decide ((128:Int)<=x))) L):ag6 98 [.int .i32 x] L K:=by replace h:=hid h;refine ag5 LZ ?_;exact aa h.out
def IW(s:List UInt8):Bool:=s.all λc=>decide (c.toNat<128)
theorem afI{s:List UInt8}(hs:s.length<=1100000)(hno:IW s=true->K (.int .i64 (-1)) L)(hyes:∀k:Nat,IW s=false->K (.int .i64 (k:Int)) L):
  ag6 136 [.str s,.func 98 [],.bool true] L K:=by
 replace hno:=hid hno;replace hyes:=hid hyes;refine ag5 vS ?_;refine ak (λn T' L'=>∃p,n=s.length-p/\p<=s.length/\Hid (IW (s.take p)=true)/\T'=[(10,.ptr L.length 0),(1,.func 98 []),(2,.bool true)]/\L'=L++[.siter s p]) (CutS (b:=by simp)) ⟨0,rfl,ahf _,hid rfl,rfl,rfl⟩ ?_;rintro _ _ _ ⟨p,rfl,hp,hall,rfl,rfl⟩;by_cases hlt:p<s.length;obtain⟨c,hc⟩:=ag2 (s.getD p 0);have hr:=c.toNat_lt;have htk:s.take (p+1)=s.take p++[c]:=by rw[ahw hlt,<- hc];simp[hlt]
 have hnext:IW (s.take (p+1))=decide (c.toNat<128):=by have:=hall.out;unfold IW at this⊢;rw[htk,ajE,this];simp
 by_cases ha:c.toNat<128;have hd:=RQ hlt (by rw[hc];exact ha);rw[hc]at hd;have w0:IntKind.i32.wrap (c.toNat:Int)=(c.toNat:Int):=QN (by omega) (by omega);have f1:¬(128:Int)<=(c.toNat:Int):=by omega
 replace hnext:=hid (hnext.trans (decide_eq_true ha));clear hc ha htk;have kk1:=@hid _ @Yj;refine wk ?_;exact ah _ _ _ (by omega) (CutS (b:=by simp)) ⟨p+1,rfl,hlt,hnext,rfl,rfl⟩;have hh:=TZ hlt (by rw[hc];omega);obtain⟨⟨x,wd⟩,hd⟩:∃q,Qb s p=q:=⟨_,rfl⟩;rw[hd]at hh;simp only at hh;have f1:(128:Int)<=(x:Int):=by omega
 have hbad:IW s=false:=by rw[<- aiI];intro e;have hm:c∈s:=(by rw[<- hc];simp[hlt]);have:=ahk.1 e c hm;simp at this;omega
 have h':=hid (hyes.out p hbad);clear hc ha htk hnext hbad;have kk1:=@hid _ @Yj;refine wk ?_;exact ae rfl h'.out;have hke:p=s.length:=by omega
 subst hke;have h1:=hall.out;rw[ahr]at h1;have h':=hid (hno.out h1);clear h1;refine wk ?_;exact ae rfl h'.out
theorem ab2{s:List UInt8}(hs:s.length<=1100000)(hno:IW s=true->K (.int .i64 (-1)) L)(hyes:∀k:Nat,IW s=false->K (.int .i64 (k:Int)) L):
  ag6 97 [.str s,.func 98 []] L K:=by
 replace hno:=hid hno;replace hyes:=hid hyes;refine ag5 vT ?_;refine afI hs (λe=>?_) (λk e=>?_);have h':=hid (hno.out e);refine sk ?_;refine wk ?_;exact aa h'.out;have h':=hid (hyes.out k e);refine sk ?_;refine wk ?_;exact aa h'.out
def dig(v:List UInt8)(i:Nat):Nat:=(v.getD i 0).toNat-48
def two(v:List UInt8)(i:Nat):Nat:=10*dig v i+dig v (i+1)
def eO(c:UInt8):Bool:=decide (48<=c.toNat)&&decide (c.toNat<=57)
def abP(y:Nat):Bool:=decide (y%4=0) && !decide (y%100=0) ||decide (y%400=0)
def UU(m:Nat):Nat:=if m=2 then 28 else if m=4\/m=6\/m=9\/m=11 then 30 else 31
def Ty(y m:Nat):Nat:=if m=2/\abP y=true then UU m+1 else UU m
def Wi(v:List UInt8):Bool:=decide ((1<=two v 4/\two v 4<=12)/\1<=two v 6/\two v 8<=23/\two v 10<=59/\two v 12<=59)&&decide (two v 6<=Ty (two v 0*100+two v 2) (two v 4))
def HO(v:List UInt8):Bool:=decide (v.length=15)&&decide (v.getD 14 0=90)&&(v.take 14).all eO&&Wi v
theorem agi{v:List UInt8}{i p:Nat}{z:Int}(hz:z=(i:Int))(hi:i+1<v.length)(hv:v.length<=1000)(h1:eO (v.getD i 0)=true)(h2:eO (v.getD (i+1) 0)=true)(hL:L[p]?=some (.cells [.str v]))(h:K (.int .i64 (two v i:Nat)) L):
  ag6 141 [.int .i64 z,.ptr p 0] L K:=by
 subst hz;unfold two dig at h;obtain⟨a,ha⟩:=ag2 (v.getD i 0);obtain⟨b,hb⟩:=ag2 (v.getD (i+1) 0);rw[ha]at h1 h;rw[hb]at h2 h;simp only[eO,ahe,decide_eq_true_eq]at h1 h2;obtain⟨x,hx⟩:∃x:Nat,a.toNat=48+x:=⟨a.toNat-48,by omega⟩;obtain⟨y,hy⟩:∃y:Nat,b.toNat=48+y:=⟨b.toNat-48,by omega⟩;have hx9:x<=9:=by omega
 have hy9:y<=9:=by omega
 rw[show 10*(a.toNat-48)+(b.toNat-48)=10*x+y by omega]at h;have hxa:(a.toNat:Int)=48+(x:Int):=by omega
 have hyb:(b.toNat:Int)=48+(y:Int):=by omega
 have g1:(i:Int)<(v.length:Int):=by omega
 have g2:=ag4 i (by omega);have g3:(i:Int)+1<(v.length:Int):=by omega
 have g4:((i:Int)+1).toNat=i+1:=by omega
 have g5:(0:Int)<=(i:Int)+1:=by omega
 have w1:IntKind.u8.wrap (48+(x:Int)-48)=(x:Int):=by rw[cD (by omega) (by omega)];omega
 have w2:IntKind.u8.wrap (48+(y:Int)-48)=(y:Int):=by rw[cD (by omega) (by omega)];omega
 have w3:IntKind.i64.wrap (x:Int)=(x:Int):=ac (by omega) (by omega);have w4:IntKind.i64.wrap (y:Int)=(y:Int):=ac (by omega) (by omega);have w5:IntKind.i64.wrap ((x:Int)*10)=(x:Int)*10:=ac (by omega) (by omega);have w6:IntKind.i64.wrap ((x:Int)*10+(y:Int))=(x:Int)*10+(y:Int):=ac (by omega) (by omega);have hfin:K (.int .i64 ((x:Int)*10+(y:Int))) L:=by rwa[show((10*x+y:Nat):Int)=(x:Int)*10+(y:Int)by omega]at h
 replace hfin:=hid hfin;clear h h1 h2 hx hy;refine ag5 H3 ?_;exact aa hfin.out
theorem aeu{m:Nat}(h1:1<=m)(h2:m<=12){l:List AV}(hl:dV 2=some l):l.getD (m-1) .undef=.int .i64 (UU m:Nat)/\l.length=12:=by
 have e:dV 2=some [.int .i64 31,.int .i64 28,.int .i64 31,.int .i64 30,.int .i64 31,.int .i64 30,.int .i64 31,.int .i64 31,.int .i64 30,.int .i64 31,.int .i64 30,.int .i64 31]:=by rfl
 rw[e]at hl;cases hl;have:m=1\/m=2\/m=3\/m=4\/m=5\/m=6\/m=7\/m=8\/m=9\/m=10\/m=11\/m=12:=by omega
 rcases this with rfl|rfl|rfl|rfl|rfl|rfl|rfl|rfl|rfl|rfl|rfl|rfl<;>exact⟨rfl,rfl⟩
theorem i6{v:List UInt8}{i:Nat}(h1:eO (v.getD i 0)=true)(h2:eO (v.getD (i+1) 0)=true):two v i<=99:=by simp only[eO,ahe,decide_eq_true_eq]at h1 h2;unfold two dig;omega
theorem VD{v:List UInt8}(hv:v.length<=1100000)(h:K (.bool (HO v)) L):ag6 101 [.str v] L K:=by
 have no:HO v=false->K (.bool false) L:=λe=>by rw[<- e];exact h
 replace no:=hid no;replace h:=hid h;refine ad LY (by simp[oQ]) ?_;simp only[oQ,am];by_cases h15:v.length=15;rotate_left;have f1:¬(v.length:Int)=15:=by omega
 have h':=hid (no.out (by simp[HO,h15]));clear h15;refine wk ?_;exact ae rfl h'.out;have f1:(v.length:Int)=15:=by omega
 obtain⟨z,hz⟩:=ag2 (v.getD 14 0);by_cases h90:z=90;rotate_left;have f2:¬(z.toNat:Int)=90:=λe=>h90 ((bp z 90).1 e)
 have h':=hid (no.out (by simp[HO,<- hz]at h90⊢;simp[h90]));clear h90;refine wk ?_;exact ae rfl h'.out;have f2:(z.toNat:Int)=90:=by rw[h90];rfl
 obtain⟨w,hw⟩:=ag2 (v.take 14);have hwl:w.length=14:=by rw[<- hw];simp[h15]
 have f3:(14:Int)<=(v.length:Int):=by omega
 have hul:(u8s w).length=14:=by simp[u8s,hwl]
 have hdall:=hid (show w.all eO=false->K (.bool false) L from λe=>no.out (by simp[HO,hw,e]));replace hw:=hid hw;have hw':v.take 14=w:=hw.out;have f4:(0:Int)<=14:=by omega
 refine wk ?_;refine ak (λn T' L'=>∃i:Nat,n=14-i/\i<=14/\Hid ((w.take i).all eO=true)/\T'=[(22,.int .i64 (i:Int)),(21,.int .i64 14),(20,.sl (u8s w) 14 none),(1,.ptr L.length 0)]/\L'=L++[.cells [.str v]]) (CutS (b:=by simp)) ⟨0,rfl,ahf _,hid rfl,rfl,rfl⟩ ?_;rintro _ _ _ ⟨i,rfl,hi,hall,rfl,rfl⟩;by_cases hlt:i<14
 .have g1:(i:Int)<14:=(by omega);have g2:=ag4 i (by omega);obtain⟨c,hc⟩:=ag2 (w.getD i 0);have g3:(u8s w).getD i .undef=.int .u8 c.toNat:=(by rw[<- hc];simp[u8s,show i<w.length by omega]);have hm:c∈w:=(by rw[<- hc];simp[show i<w.length by omega]);have htk:w.take (i+1)=w.take i++[c]:=(by rw[ahw (by omega),<- hc];simp[show i<w.length by omega]);have bad:=hid λ(e:eO c=false)=>hdall.out (List.all_eq_false.2 ⟨c,hm,by rw[e];simp⟩)
  have good:=hid λ(e:eO c=true)=>show(w.take (i+1)).all eO=true by rw[htk,ajE,hall.out];simp[e]
  clear hc hm htk hw' h15 hwl
  repeat' first
   |refine br ?_
   | (first|refine bh (by kernel_rfl) ?_|refine aH (by kernel_rfl) ?_|refine aK ?_|refine cO ?_|refine bB (fun _=>?_)|refine aB ?_|refine bm ?_)
     refine sm ?_
   | (first|refine a8 (by kernel_rfl) ?_|refine bc ?_|refine aJ ?_|refine bj ?_|refine bG (aA ?_))
     refine sl ?_
   |exact bC
   |first|apply bD|apply be|apply bE|apply bf|apply bF|apply bg
   |refine aN ?_
   |refine aI ?_
   |first|refine aL rfl ?_|refine aM rfl ?_|refine aw rfl ?_ ?_|refine aQ rfl (λ_=>?_) (λ_=>?_)|refine aP rfl (λ_=>?_) (λ_=>?_)
   |((first|refine au (λ_=>?_) (λ_=>?_)|refine az (λ_=>?_) (λ_=>?_))<;>try refine sm ?_)
   |refine And.intro trivial ?_
   |refine And.intro (by omega) ?_
   |refine aU rfl (λ_=>?_) (λ_=>?_)
   |refine And.intro ?_ ?_
  rename_i hx;refine ae rfl (bad.out ?_);simp only[eO,ajl,decide_eq_false_iff_not];omega;rename_i hx;refine ah _ _ _ (by omega) (CutL (b:=by simp)) ⟨i+1,rfl,by omega,hid (good.out ?_),rfl,rfl⟩;simp only[eO,ahe,decide_eq_true_eq];omega
 have hke:i=14:=by omega
 subst hke;have g1:¬((14:Nat):Int)<14:=by omega
 have hda:=hall.out;rw[aib (by omega)]at hda;have hdv:∀i,i<14->eO (v.getD i 0)=true:=λi hi=>by refine ahk.1 hda _ ?_;rw[<- hw.out];have:v.getD i 0=(v.take 14)[i]'(by simp;omega):=(by simp[show i<v.length by omega]);rw[this];exact ah9 _
 have hdate:HO v=Wi v:=by simp only[HO,h15,hz,h90,hw.out,hda];simp
 have ct:∀i:Nat,i+1<14->∀(z:Int) (K:AV->List Blk->Prop),z=(i:Int)->K (.int .i64 (two v i:Nat)) (L++[.cells [.str v]])->ag6 141 [.int .i64 z,.ptr L.length 0] (L++[.cells [.str v]]) K:=λi hi z K hz h =>
  agi hz (by omega) (by omega) (hdv i (by omega)) (hdv (i+1) hi) (pI _ _ _) h
 have b0:=i6 (hdv 0 (by omega)) (hdv 1 (by omega));have b2:=i6 (hdv 2 (by omega)) (hdv 3 (by omega));have b4:=i6 (hdv 4 (by omega)) (hdv 5 (by omega));have b6:=i6 (hdv 6 (by omega)) (hdv 7 (by omega));have b8:=i6 (hdv 8 (by omega)) (hdv 9 (by omega));have b10:=i6 (hdv 10 (by omega)) (hdv 11 (by omega));have b12:=i6 (hdv 12 (by omega)) (hdv 13 (by omega));have kk1:=@hid _ (λ{K:ag7}=>ct 0 (by omega) 0 K rfl);have kk2:=@hid _ (λ{K:ag7}=>ct 2 (by omega) 2 K rfl);have kk3:=@hid _ (λ{K:ag7}=>ct 4 (by omega) 4 K rfl);have kk4:=@hid _ (λ{K:ag7}=>ct 6 (by omega) 6 K rfl);have kk5:=@hid _ (λ{K:ag7}=>ct 8 (by omega) 8 K rfl);have kk6:=@hid _ (λ{K:ag7}=>ct 10 (by omega) 10 K rfl);have kk7:=@hid _ (λ{K:ag7}=>ct 12 (by omega) 12 K rfl);have hfin:=h.out;rw[hdate]at hfin;unfold Wi at hfin;obtain⟨Y,hY⟩:=ag2 (two v 0);obtain⟨Y2,hY2⟩:=ag2 (two v 2);obtain⟨M,hM⟩:=ag2 (two v 4);obtain⟨D,hD⟩:=ag2 (two v 6);obtain⟨H,hH⟩:=ag2 (two v 8);obtain⟨I,hI⟩:=ag2 (two v 10);obtain⟨S,hS⟩:=ag2 (two v 12);rw[hY]at b0 hfin kk1;rw[hY2]at b2 hfin kk2;rw[hM]at b4 hfin kk3;rw[hD]at b6 hfin kk4;rw[hH]at b8 hfin kk5;rw[hI]at b10 hfin kk6;rw[hS]at b12 hfin kk7;clear hY hY2 hM hD hH hI hS ct hdate hdv hda hall hw' hw hdall h15 hwl hul hi hlt f1 f2 f3 f4 hv h90 hz no h;have w1:IntKind.i64.wrap ((Y:Int)*100)=(Y:Int)*100:=ac (by omega) (by omega);have w2:IntKind.i64.wrap ((Y:Int)*100+(Y2:Int))=(Y:Int)*100+(Y2:Int):=ac (by omega) (by omega);have hbad:¬((1<=M/\M<=12)/\1<=D/\H<=23/\I<=59/\S<=59)->K (.bool false) L:=λe=>by rw[decide_eq_false e]at hfin;simpa using hfin
 replace hbad:=hid hbad;replace hfin:=hid hfin;by_cases m1:(M:Int)<1;refine wk ?_;exact ae rfl (hbad.out (by omega));by_cases m2:(12:Int)<(M:Int);refine wk ?_;exact ae rfl (hbad.out (by omega));by_cases m3:(D:Int)<1;refine wk ?_;exact ae rfl (hbad.out (by omega));by_cases m4:(23:Int)<(H:Int);refine wk ?_;exact ae rfl (hbad.out (by omega));by_cases m5:(59:Int)<(I:Int);refine wk ?_;exact ae rfl (hbad.out (by omega));by_cases m6:(59:Int)<(S:Int);refine wk ?_;exact ae rfl (hbad.out (by omega));have hgood:=hid (show decide (D<=Ty (Y*100+Y2) M)=true\/decide (D<=Ty (Y*100+Y2) M)=false by cases decide (D<=Ty (Y*100+Y2) M)<;>simp);have hfin2:=hfin.out;rw[show decide ((1<=M/\M<=12)/\1<=D/\H<=23/\I<=59/\S<=59)=true by simp;omega,aia]at hfin2;unfold Ty abP at hfin2;obtain⟨dn,hdn⟩:=ag2 (UU M);have hdb:dn<=31:=by rw[<- hdn];unfold UU;split<;>(try split)<;>omega
 obtain⟨r4,hr4⟩:=ag2 ((Y*100+Y2)%4);obtain⟨r100,hr100⟩:=ag2 ((Y*100+Y2)%100);obtain⟨r400,hr400⟩:=ag2 ((Y*100+Y2)%400);rw[hr4,hr100,hr400,hdn]at hfin2;have t4:Int.tmod ((Y:Int)*100+(Y2:Int)) 4=(r4:Int):=by rw[ai6 (by omega)];omega
 have t100:Int.tmod ((Y:Int)*100+(Y2:Int)) 100=(r100:Int):=by rw[ai6 (by omega)];omega
 have t400:Int.tmod ((Y:Int)*100+(Y2:Int)) 400=(r400:Int):=by rw[ai6 (by omega)];omega
 have x1:IntKind.i64.wrap ((M:Int)-1)=(M:Int)-1:=ac (by omega) (by omega);have x2:((M:Int)-1).toNat=M-1:=by omega
 have x3:(0:Int)<=(M:Int)-1:=by omega
 have x4:(M:Int)-1<12:=by omega
 obtain⟨x5,x6⟩:=aeu (m:=M) (by omega) (by omega) Wa;rw[hdn]at x5;have x7:=ag4 dn (by omega);replace hfin2:=hid hfin2;clear hr4 hr100 hr400 hdn hgood
 repeat' first
  |refine br ?_
  | (first|refine bh (by kernel_rfl) ?_|refine aH (by kernel_rfl) ?_|refine aK ?_|refine cO ?_|refine bB (fun _=>?_)|refine aB ?_|refine bm ?_|refine kk1.out ?_|refine kk2.out ?_|refine kk3.out ?_|refine kk4.out ?_|refine kk5.out ?_|refine kk6.out ?_|refine kk7.out ?_|refine bb (kk1.out ⟨rfl,rfl⟩) (kk1.out ⟨rfl,rfl⟩) ?_|refine bb (kk2.out ⟨rfl,rfl⟩) (kk2.out ⟨rfl,rfl⟩) ?_|refine bb (kk3.out ⟨rfl,rfl⟩) (kk3.out ⟨rfl,rfl⟩) ?_|refine bb (kk4.out ⟨rfl,rfl⟩) (kk4.out ⟨rfl,rfl⟩) ?_|refine bb (kk5.out ⟨rfl,rfl⟩) (kk5.out ⟨rfl,rfl⟩) ?_|refine bb (kk6.out ⟨rfl,rfl⟩) (kk6.out ⟨rfl,rfl⟩) ?_|refine bb (kk7.out ⟨rfl,rfl⟩) (kk7.out ⟨rfl,rfl⟩) ?_|refine aC (kk1.out ⟨rfl,rfl⟩) ?_|refine aC (kk2.out ⟨rfl,rfl⟩) ?_|refine aC (kk3.out ⟨rfl,rfl⟩) ?_|refine aC (kk4.out ⟨rfl,rfl⟩) ?_|refine aC (kk5.out ⟨rfl,rfl⟩) ?_|refine aC (kk6.out ⟨rfl,rfl⟩) ?_|refine aC (kk7.out ⟨rfl,rfl⟩) ?_)
    refine sm ?_
  | (first|refine a8 (by kernel_rfl) ?_|refine bc ?_|refine aJ ?_|refine bj ?_|refine bG (aA ?_))
    refine sl ?_
  |exact bC
  |first|apply bD|apply be|apply bE|apply bf|apply bF|apply bg
  |refine aN ?_
  |refine aI ?_
  |first|refine aL rfl ?_|refine aM rfl ?_|refine aw rfl ?_ ?_|refine aQ rfl (λ_=>?_) (λ_=>?_)|refine aP rfl (λ_=>?_) (λ_=>?_)
  |((first|refine au (λ_=>?_) (λ_=>?_)|refine az (λ_=>?_) (λ_=>?_))<;>try refine sm ?_)
  |refine And.intro trivial ?_
  |refine And.intro (by omega) ?_
  |refine aU rfl (λ_=>?_) (λ_=>?_)
  |refine And.intro ?_ ?_
 rename_i hx;refine ae rfl ?_;have e:=hfin2.out;rw[if_pos ⟨by omega,by simp;omega⟩]at e;rwa[show decide (D<=dn+1)=decide ((D:Int)<=(dn:Int)+1)by simp only[decide_eq_decide];omega]at e;rename_i hx;refine ae rfl ?_;have e:=hfin2.out;rw[if_neg (λ⟨e1,e2⟩=>hx ⟨by omega,by simp at e2;omega⟩)]at e;rwa[show decide (D<=dn)=decide ((D:Int)<=(dn:Int))by simp only[decide_eq_decide];omega]at e
end Go.Proofs.YtcmfcpjnhephaaaGreatDoor.Av
set_option maxRecDepth 100000
namespace Go.Proofs.YtcmfcpjnhephaaaGreatDoor.Av
open Go
def HC:LSO:=[A4 1 0,Ac 2 0]
def HB:LSO:=[o1 3 (.alloc [(.int .i64 0)]),Ap 4 5 1,BA 5 120 3 4 1,Aa 2 5]
def wj:aO:=⟨6,(akg HC [] (akg HB Cs .ret)),[(.tmp 2)]⟩
attribute [push_cast] HC HB
theorem Qr:akl 76=akm wj:=by kernel_rfl
def kJ:LSO:=[A4 4 1,Ac 6 0]
def kI:LSO:=[Aa 10 2,A3 11 10 64]
def kE:LSO:=[Ac 6 6]
def kz:LSO:=[Aa 12 0,As 13 12,Ad 14 0 13,Ab 15 1 14,Ag 16 15 1,As 17 12,Ad 18 0 17,Ai 1 18 16]
def ky:LSO:=[Aa 19 0,As 20 19,Ad 21 0 20,Ab 22 1 21,A3 23 22 1000]
def kx:LSO:=[Ac 6 9]
def kw:LSO:=[Ad 25 0 4,Ab 26 1 25,AH 27 26 0,Aa 28 27,.grp none 28 false
 [AO 29 28 0 4,AI 30 28 1 29,A9 31 28 30 8]
 32 (tm 31),Aa 24 32]
def ku:LSO:=[Ac 6 24]
def kr:LSO:=[Ad 34 0 4,Ab 35 1 34,Aq 36 35 2,Aa 37 36,.grp none 37 true
 [A8 38 37 4 4,A7 39 37 1 38,AT 40 37 39,BV 41 37 40 1]
 42 (tm 41),Aa 33 42]
def kq:LSO:=[Ac 6 2]
def iP:LSO:=[Ad 44 0 4,Ab 45 1 44,o1 46 (.bin .leq (tm 45) (iv 2)),Aa 43 46]
def iO:LSO:=[Ad 47 4 4,Ab 48 1 47,Am 49 48,Ac 50 0]
def iN:LSO:=[Al 51 50 49]
def iM:LSO:=[An 52 5 48 50,Ap 53 5 52,AU 8,Ai 5 8 53]
def iL:LSO:=[Aa 54 0,Ap 55 5 8,Aa 56 2,Ag 57 56 1,AB 58 120 54 55 57,Aa 9 58]
def iK:LSO:=[Aa 59 9,AF 60 59 0]
def iJ:LSO:=[Aa 61 9,Aa 6 61]
def iI:LSO:=[Ag 62 50 1,Aa 50 62]
def iH:LSO:=[Ad 64 1 4,Ab 65 1 64,Ak 66 157 65,Ay 67 66,Aa 63 67]
def iG:LSO:=[Ac 6 20]
def iF:LSO:=[Ad 69 0 4,Ab 70 1 69,Aq 71 70 4,Aa 72 71,.grp none 72 true
 [A8 73 72 3 4,A7 74 72 1 73,AJ 75 72 158 74,B9 76 72 75]
 77 (tm 76),Aa 68 77]
def iE:LSO:=[Ac 6 4]
def iD:LSO:=[Ac 6 0]
def fO:aO:=⟨78,(akg kJ [] (.seq (akg kI Cq (aki 11 (.sreg kE []))) (.seq (akg kz C2 (akg ky Ct (aki 23 (.sreg kx [])))) (.seq (.block 0 (akg kw Cu (akh 24 (akg ku [] .ret) (akg kr Cu (akh 33 (akg kq [] .ret) (akg iP Cs (akh 43 (akg iO CA (akj 1 (akg iN [] (.seq (akk 51 1) (.seq (.block 2 (akg iM Cr (akg iL Cu (akg iK Cq (aki 60 (.sreg iJ Cq)))))) (.sreg iI Cq)))))) (akg iH Ct (akh 63 (akg iG [] .ret) (akg iF Cu (aki 68 (.sreg iE [])))))))))))) (akg iD [] .ret))))),[(.tmp 6)]⟩
attribute [push_cast] kJ kI kE kz ky kx kw ku kr kq iP iO iN iM iL iK iJ iI iH iG iF iE iD
theorem vv:akl 120=akm fO:=by kernel_rfl
def DA:LSO:=[Af 2]
def Dz:LSO:=[Aa 5 0,Am 6 5,Ac 7 0]
def Dy:LSO:=[Al 8 7 6]
def Dx:LSO:=[Aa 9 7,An 10 2 5 7,Ap 11 2 10,Ci 4,Aa 3 9,Ai 2 4 11]
def Dw:LSO:=[Ad 13 1 4,Ab 14 1 13,Bz 15 14,Aa 16 15,.grp none 16 false
 [AO 17 16 0 4,AI 18 16 1 17,BT 19 16 18 0]
 20 (tm 19),Aa 21 20,.grp none 21 false
 [AO 22 21 0 4,AI 23 21 1 22,A9 24 21 23 2]
 25 (tm 24),Aa 12 25]
def Dv:LSO:=[Af 2]
def Du:LSO:=[Ad 27 0 4,Ab 28 1 27,Aq 29 28 0,Aa 30 29,.grp none 30 true
 [Ae 31 30 3,Cj 32 30 31 0]
 33 (tm 32),Aa 34 33,.grp none 34 false
 [AO 35 34 0 4,AI 36 34 1 35,AM 37 34 36 2,Ah 38 34 37,.grp (some (34,false)) 38 true
 [Ae 39 38 3,Ae 40 38 0,AT 41 38 40,BJ 42 38 41 1,Bt 43 38 39 42]
 44 (tm 43)]
 45 (tm 44),Aa 26 45]
def Dt:LSO:=[Af 2]
def Ds:LSO:=[Ag 46 7 1,Aa 7 46]
def Dr:LSO:=[Aa 47 0,Am 48 47,A3 49 48 0,Aa 2 49]
def rR:aO:=⟨50,(akg DA [] (.seq (akg Dz [] (akj 0 (akg Dy [] (.seq (akk 8 0) (.seq (.block 1 (akg Dx Cz (.block 2 (akg Dw Cx (akh 12 (akg Dv [] .ret) (akg Du Cx (aki 26 (.sreg Dt [])))))))) (.sreg Ds Cq)))))) (akg Dr Cs .ret))),[(.tmp 2)]⟩
attribute [push_cast] DA Dz Dy Dx Dw Dv Du Dt Ds Dr
theorem Pe:akl 158=akm rR:=by kernel_rfl
attribute [push_cast] wj fO rR
variable {L:List Blk}{K:ag7}
set_option maxHeartbeats 8000000
set_option maxRecDepth 100000
theorem abo:dV 6=some (Lib.pow10Tab.map (AV.int .u64)):=by rfl
theorem Zp:Tryz.prog.globalNamed "internal/strconv.uint64pow10" = some 6:=by kernel_rfl
theorem agr{n:Int}(hn:I64 n)(h:K (.str (Lib.itoa n)) L):ag6 138 [.int .i64 n,.int .i64 10] L K :=
 cW Tryz.func138 rfl (by kernel_rfl) (λw0 S0 E w vs hR hv=>by simp only[VRL,VR]at hv;obtain⟨_,_,rfl,rfl,_,_,rfl,rfl,rfl⟩:=hv;refine(Tryz.strconv_FormatInt_10 n hn.1 hn.2 w (hR.table Zp abo (by simp[Lib.pow10Tab]))).mono λe w' ⟨he,k,os,hw⟩=>⟨_,he,by simp[VR],by subst hw;exact rT.of_grow w k os⟩) h
theorem vO{w w':World}(h:RowKit.Below w.heap.size w w'):rT w w':=⟨λb hb=>h.block b hb,h.size,h.os,h.tape,h.output⟩
theorem Wh{w0:World}{S0:SB}{E:Env}{L:List Blk}{w:World}(hR:Rel w0 S0 E L w){g:Nat}{t:TypeId}(hp:dV g=some [.iface t .undef]):∃x,w.cell? ⟨g,0,none⟩=some (.iface t x):=by have hm:=vP hp;obtain⟨v,h1,h2⟩:=(hR.glob.env hm).get (i:=0) (a:=.iface t .undef) rfl;simp only[VR]at h2;obtain⟨x,rfl,_⟩:=h2;exact⟨x,by simpa using hR.mem _ _ _ h1⟩
theorem abr{l:List UInt8}{n:Int}(hl:(l.length:Int)<=1100000)(hp:Lib.parseIntB 64 l=.ok n)(h:K (.tup [.int .i64 n,.nilif]) L):ag6 137 [.str l,.int .i64 10,.int .i64 64] L K :=
 cW Tryz.func137 rfl (by kernel_rfl) (λw0 S0 E w vs hR hv=>by
  simp only[VRL,VR]at hv;obtain⟨_,_,rfl,rfl,_,_,rfl,rfl,_,_,rfl,rfl,rfl⟩:=hv;refine(Tryz.strconv_ParseInt_10_at64_ok ⟨⟨l⟩⟩ (show l.length<=_ by omega) n hp w).mono λe w' ⟨he,hw⟩=>⟨_,he,by simp[VR,VRL],?_⟩
  rcases hw with rfl|⟨t,rfl⟩;exact rT.refl _;exact vO (Lib.bytesWorld_below _ _ _)) h
theorem abt{l:List UInt8}(hl:(l.length:Int)<=1100000)(hp:∀n,Lib.parseIntB 64 l≠.ok n)(h:K (.tup [.int .i64 (SD l),.iface 252 .undef]) L):ag6 137 [.str l,.int .i64 10,.int .i64 64] L K :=
 cW Tryz.func137 rfl (by kernel_rfl) (λw0 S0 E w vs hR hv=>by
  simp only[VRL,VR]at hv;obtain⟨_,_,rfl,rfl,_,_,rfl,rfl,_,_,rfl,rfl,rfl⟩:=hv
  match hq:Lib.parseIntB 64 l with
  |.ok n=>exact absurd hq (hp n)
  | .syntax =>
    obtain⟨x,hx⟩:=Wh hR (g:=4) rfl;refine(Tryz.strconv_ParseInt_10_at64_syntax ⟨⟨l⟩⟩ (show l.length<=_ by omega) hq _ w hx (.inr ⟨_,_,rfl⟩)).mono λe w' ⟨N,he,_,_,hw⟩=>⟨_,he,?_,vO hw⟩
    have e0:SD l=0:=(by simp[SD,hq]);rw[e0];simp[VR,VRL];exact⟨_,_,⟨rfl,rfl⟩,rfl,_,rfl,_,rfl⟩
  | .range =>
    obtain⟨x,hx⟩:=Wh hR (g:=5) rfl;refine(Tryz.strconv_ParseInt_10_at64_range ⟨⟨l⟩⟩ (show l.length<=_ by omega) hq _ w hx (.inr ⟨_,_,rfl⟩)).mono λe w' ⟨N,he,_,_,hw⟩=>⟨_,he,?_,vO hw⟩
    have e0:SD l=Lib.intSat 64 l:=(by simp[SD,hq]);rw[e0];simp[VR,VRL];exact⟨_,_,⟨rfl,rfl⟩,rfl,_,rfl,_,rfl⟩) h
theorem Vz{l:List UInt8}(hl:(l.length:Int)<=1100000)(h:K (.tup [.int .i64 (SD l),.bool (vd l)]) L):ag6 99 [.str l] L K:=by
 replace h:=hid h;refine ad LX (by simp[oP]) ?_;simp only[oP,am];by_cases hp:∃n,Lib.parseIntB 64 l=.ok n;obtain⟨n,hp⟩:=hp;have hr:=hid (PM hp);have e1:=hid (show SD l=n by simp[SD,hp]);have e2:=hid (show vd l=decide (Lib.itoa n=l)by simp[vd,hp]);replace hp:=hid hp;have kk1:=@hid _ (λL K=>abr hl hp.out (L:=L) (K:=K));have kk2:=@hid _ (λL K=>agr hr.out (L:=L) (K:=K));refine wk ?_;refine aa ?_;have h:=h.out;rw[e1.out,e2.out]at h;exact h;have hp':=hid (show ∀n,Lib.parseIntB 64 l≠.ok n from λn e=>hp ⟨n,e⟩);have e2:=hid (show vd l=false by unfold vd;split;rename_i n hn;exact absurd ⟨n,hn⟩ hp;rfl)
 clear hp;have kk1:=@hid _ (λL K=>abt hl hp'.out (L:=L) (K:=K));refine wk ?_;refine aa ?_;have h:=h.out;rw[e2.out]at h;exact h
theorem XH:dV 0=some ((List.range 256).map λc=>AV.int .u8 (Lib.firstT c:Int)):=by kernel_rfl
theorem Ww:dV 1=some ((List.range 16).flatMap λi=>[AV.int .u8 (Lib.accLo i:Int),AV.int .u8 (Lib.accHi i:Int)]):=by kernel_rfl
theorem OJ{w0:World}{S0:SB}{E:Env}{L:List Blk}{w:World}(hR:Rel w0 S0 E L w){g i:Nat}{l:List AV}{k:IntKind}{z:Int}(hp:dV g=some l)(hi:l[i]?=some (.int k z)):w.cell? ⟨g,i,none⟩=some (.int k z):=by have hm:=vP hp;obtain⟨v,h1,h2⟩:=(hR.glob.env hm).get (i:=i) (a:=.int k z) hi;simp only[VR]at h2;subst h2;simpa using hR.mem _ _ _ h1
theorem YT{w0:World}{S0:SB}{E:Env}{L:List Blk}{w:World}(hR:Rel w0 S0 E L w):Lib.Utf8Tabs 0 1 w:=by
 refine⟨λc hc=>OJ hR XH ?_,λi hi=>⟨OJ hR Ww ?_,OJ hR Ww ?_⟩⟩;simp[hc];have:∀i:_root_.Fin 16,((List.range 16).flatMap λi=>[AV.int .u8 (Lib.accLo i:Int),AV.int .u8 (Lib.accHi i:Int)])[2*i.val]?=some (.int .u8 (Lib.accLo i.val:Int)):=λi=>by
  match i with
  |⟨0,_⟩|⟨1,_⟩|⟨2,_⟩|⟨3,_⟩|⟨4,_⟩|⟨5,_⟩|⟨6,_⟩|⟨7,_⟩|⟨8,_⟩|⟨9,_⟩|⟨10,_⟩|⟨11,_⟩|⟨12,_⟩|⟨13,_⟩|⟨14,_⟩|⟨15,_⟩=>rfl
  |⟨n+16,h⟩=>omega
 exact this ⟨i,hi⟩;have:∀i:_root_.Fin 16,((List.range 16).flatMap λi=>[AV.int .u8 (Lib.accLo i:Int),AV.int .u8 (Lib.accHi i:Int)])[2*i.val+1]?=some (.int .u8 (Lib.accHi i.val:Int)):=λi=>by
  match i with
  |⟨0,_⟩|⟨1,_⟩|⟨2,_⟩|⟨3,_⟩|⟨4,_⟩|⟨5,_⟩|⟨6,_⟩|⟨7,_⟩|⟨8,_⟩|⟨9,_⟩|⟨10,_⟩|⟨11,_⟩|⟨12,_⟩|⟨13,_⟩|⟨14,_⟩|⟨15,_⟩=>rfl
  |⟨n+16,h⟩=>omega
 exact this ⟨i,hi⟩
theorem Is{l:List UInt8}(hl:l.length<=1100000)(h:K (.bool (Lib.validD l)) L):ag6 96 [.str l] L K :=
 cW Tryz.func96 rfl (by kernel_rfl) (λw0 S0 E w vs hR hv=>by simp only[VRL,VR]at hv;obtain⟨_,_,rfl,rfl,rfl⟩:=hv;exact(Any.utf8_ValidString Tryz.lays196 ⟨⟨l⟩⟩ w (show l.length<=_ by omega) (YT hR)).mono λe w' ⟨he,hw⟩=>⟨_,he,by simp[VR],vO hw⟩) h
theorem QT{a b:List UInt8}{L:List Blk}{K:ag7}(h:K (.int .i64 (Lib.compareBytes a b)) L):ag6 126 [.str a,.str b] L K :=
 cW Tryz.func126 rfl (by kernel_rfl) (λw0 S0 E w vs hR hv=>by simp only[VRL,VR]at hv;obtain⟨_,_,rfl,rfl,_,_,rfl,rfl,rfl⟩:=hv;exact(Tryz.strings_Compare ⟨⟨a⟩⟩ ⟨⟨b⟩⟩ w).mono λe w' ⟨he,hw⟩=>⟨_,he,by simp[VR],by subst hw;exact rT.refl _⟩) h
abbrev acY:List UInt8:=[84,82,85,69]
abbrev XV:List UInt8:=[70,65,76,83,69]
def DG(syn:Int)(v:List UInt8):Option (List UInt8):=
 if syn=1 then(if v=[]then none else if Lib.validD v=true then some (bz v)else none)
 else if syn=2 then(if v=[]then none else if Lib.validD v=true then some v else none)
 else if syn=3 then(if IW v=true then some (bz v)else none)
 else if syn=4 then(if vd v=true then some v else none)
 else if syn=5 then(if v=acY\/v=XV then some v else none)
 else if syn=6 then(if(HU v).2=0 then some (HU v).1 else none)
 else if syn=7 then some v
 else if syn=8 then(if HO v=true then some v else none)
 else none
def dh(syn:Int)(v:List UInt8):Option (List UInt8):=if 4096<v.length then none else DG syn v
def Rm:Option (List UInt8)->AV
 |some n=>.tup [.str n,.bool true]
 |none=>.tup [.str [],.bool false]
theorem LJ{syn:Int}{v:List UInt8}(h:K (Rm (dh syn v)) L):ag6 48 [.int .i64 syn,.str v] L K:=by
 unfold dh at h;refine ad OW (by simp[rA]) ?_;simp only[rA,am];by_cases hl:4096<v.length;have f1:(4096:Int)<(v.length:Int):=by omega
 rw[if_pos hl]at h;replace h:=hid h;clear hl;refine wk ?_;exact aa h.out;have f1:¬(4096:Int)<(v.length:Int):=by omega
 rw[if_neg hl]at h;have vl1:v.length<=1100000:=by omega
 have vl2:(v.length:Int)<=100000:=by omega
 have vl3:(v.length:Int)<=1100000:=by omega
 unfold DG at h;clear hl;by_cases s1:syn=1;subst s1;rw[if_pos rfl]at h;by_cases hv:v=[];rw[if_pos hv]at h;replace h:=hid h;subst hv;have kk1:=@hid _ (λL K=>vE vl2 (L:=L) (K:=K));have kk2:=@hid _ (λL K=>Is vl1 (L:=L) (K:=K));refine wk ?_;exact aa h.out;rw[if_neg hv]at h;cases hd:Lib.validD v with
 | true =>
   rw[hd,if_pos rfl]at h;replace h:=hid h;have kk1:=@hid _ (λL K=>vE vl2 (L:=L) (K:=K));have kk2:=@hid _ (λL K=>Is vl1 (L:=L) (K:=K));refine wk ?_;exact aa h.out
 | false =>
   rw[hd,if_neg (by simp)]at h;replace h:=hid h;have kk1:=@hid _ (λL K=>vE vl2 (L:=L) (K:=K));have kk2:=@hid _ (λL K=>Is vl1 (L:=L) (K:=K));refine wk ?_;exact aa h.out
 rw[if_neg s1]at h;by_cases s2:syn=2;subst s2;rw[if_pos rfl]at h;by_cases hv:v=[];rw[if_pos hv]at h;replace h:=hid h;have kk1:=@hid _ (λL K=>Is vl1 (L:=L) (K:=K));refine wk ?_;exact aa h.out;rw[if_neg hv]at h;cases hd:Lib.validD v with
 | true =>
   rw[hd,if_pos rfl]at h;replace h:=hid h;have kk1:=@hid _ (λL K=>Is vl1 (L:=L) (K:=K));refine wk ?_;exact aa h.out
 | false =>
   rw[hd,if_neg (by simp)]at h;replace h:=hid h;have kk1:=@hid _ (λL K=>Is vl1 (L:=L) (K:=K));refine wk ?_;exact aa h.out
 rw[if_neg s2]at h;by_cases s3:syn=3;subst s3;rw[if_pos rfl]at h;replace h:=hid h;have kk1:=@hid _ (λL K=>vE vl2 (L:=L) (K:=K));refine wk ?_;refine ab2 vl1 (λe=>?_) (λk e=>?_);have h':=h.out;rw[if_pos e]at h';replace h':=hid h';refine sk ?_;refine wk ?_;exact aa h'.out;have h':=h.out;rw[if_neg (by rw[e];simp)]at h';replace h':=hid h';have k0:¬(k:Int)<0:=by omega
 refine sk ?_;refine wk ?_;exact aa h'.out;rw[if_neg s3]at h;by_cases s4:syn=4;subst s4;rw[if_pos rfl]at h;cases hd:vd v with
 | true =>
   rw[hd,if_pos rfl]at h;replace h:=hid h;have kk1:=@hid _ (λL K=>Vz vl3 (L:=L) (K:=K));refine wk ?_;exact aa h.out
 | false =>
   rw[hd,if_neg (by simp)]at h;replace h:=hid h;have kk1:=@hid _ (λL K=>Vz vl3 (L:=L) (K:=K));refine wk ?_;exact aa h.out
 rw[if_neg s4]at h;by_cases s5:syn=5;subst s5;rw[if_pos rfl]at h;by_cases t1:v=acY;rw[if_pos (.inl t1)]at h;replace h:=hid h;have c1:(decide (v=[84,82,85,69]):Bool)=true:=decide_eq_true t1;subst t1;refine wk ?_;exact aa h.out;by_cases t2:v=XV;rw[if_pos (.inr t2)]at h;replace h:=hid h;subst t2;have t3:¬([70,65,76,83,69]:List UInt8)=[84,82,85,69]:=by decide
 clear t1;refine wk ?_;exact aa h.out;rw[if_neg (λe=>e.elim t1 t2)]at h;replace h:=hid h;refine wk ?_;exact aa h.out;rw[if_neg s5]at h;by_cases s6:syn=6;subst s6;rw[if_pos rfl]at h;obtain⟨⟨k,e⟩,hk⟩:∃p,HU v=p:=⟨_,rfl⟩;rw[hk]at h;simp only at h;by_cases he:e=0;subst he;rw[if_pos rfl]at h;replace h:=hid h;refine wk ?_;refine aeZ ?_;rw[hk];simp only[rX];refine sk ?_;refine wk ?_;exact aa h.out;rw[if_neg he]at h;replace h:=hid h;refine wk ?_;refine aeZ ?_;rw[hk];simp only[rX];refine sk ?_;refine wk ?_;exact aa h.out;rw[if_neg s6]at h;by_cases s7:syn=7;subst s7;rw[if_pos rfl]at h;replace h:=hid h;refine wk ?_;exact aa h.out;rw[if_neg s7]at h;by_cases s8:syn=8;subst s8;rw[if_pos rfl]at h;cases hd:HO v with
 | true =>
   rw[hd,if_pos rfl]at h;replace h:=hid h;have kk1:=@hid _ (λL K=>VD vl1 (L:=L) (K:=K));refine wk ?_;exact aa h.out
 | false =>
   rw[hd,if_neg (by simp)]at h;replace h:=hid h;have kk1:=@hid _ (λL K=>VD vl1 (L:=L) (K:=K));refine wk ?_;exact aa h.out
 rw[if_neg s8]at h;replace h:=hid h;refine wk ?_;exact aa h.out
theorem Zv{syn:Int}{v x:List UInt8}(h:dh syn v=some x):v.length<=4096:=by unfold dh at h;split at h;cases h;omega
theorem UV:∀a b:List UInt8,Lib.compareBytes a b=if a<b then -1 else if b<a then 1 else 0
 |[],[]=>by simp[Lib.compareBytes]
 |[],b::bs=>by simp[Lib.compareBytes]
 |a::xs,[]=>by simp[Lib.compareBytes]
 | a::xs,b::bs=>by
   rw[Lib.compareBytes,UV xs bs];simp only[List.cons_lt_cons_iff];by_cases h1:a<b
   .rw[if_pos h1,if_pos (.inl h1)]
   .rw[if_neg h1];by_cases h2:b<a
    .rw[if_pos h2,if_neg,if_pos (.inl h2)];rintro(e|⟨e,_⟩)
     .exact h1 e
     .subst e;exact h1 h2
    .rw[if_neg h2];have e:a=b:=by
      rcases Nat.lt_trichotomy a.toNat b.toNat with h|h|h
      .exact absurd h h1
      .exact aiS.1 h
      .exact absurd h h2
     subst e;simp
abbrev Typ:=List UInt8×Int×Bool×Bool
def dM:List Atr->List UInt8->List (List UInt8)
 |[],_=>[]
 |a::t,n=>if af a.1=af n then a.2 else dM t n
def pU(n:List UInt8)(vs:List (List UInt8)):Bool->List Atr->List Atr
 |done,[]=>if done=true then[]else[(n,vs)]
 |done,a::t=>(if done=false/\¬af a.1<af n then[(n,vs)]else[])++(if af n≠af a.1 then[a]else[])++pU n vs (done || !decide (af a.1<af n)) t
def gV(syn:Int)(v:List UInt8):List UInt8:=(dh syn v).getD []
def inM(syn:Int)(l:List (List UInt8))(n:List UInt8):Bool:=l.any λv=>decide (gV syn v=n)
def gN(syn:Int)(v:List UInt8):Bool->List (List UInt8)->List (List UInt8)
 |done,[]=>if done=true then[]else[v]
 |done,x::t=>(if done=false/\gV syn v<gV syn x then[v]else[])++x::gN syn v (done ||decide (gV syn v<gV syn x)) t
def eS(syn:Int)(single:Bool):List (List UInt8)->List (List UInt8)->List (List UInt8)×Int
 |l,[]=>if single=true/\1<l.length then([],19)else(l,0)
 | l,v::vs=>match dh syn v with
   |none=>([],21)
   |some n=>if inM syn l n=true then([],20)else eS syn single (gN syn v false l) vs
def fw(ts:List Typ)(n:List UInt8):Option Typ:=ts.find? λt=>decide (af t.1=af n)
def vK(ts:List Typ):List Atr->List Atr->List Atr×Int
 |out,[]=>(out,0)
 | out,a::t=>match fw ts a.1 with
   |none=>([],17)
   | some ty=>if a.2=[] then ([],19) else
     if(eS ty.2.1 ty.2.2.1 (dM out a.1) a.2).2≠0 then([],(eS ty.2.1 ty.2.2.1 (dM out a.1) a.2).2)
     else vK ts (pU ty.1 (eS ty.2.1 ty.2.2.1 (dM out a.1) a.2).1 (eS ty.2.1 ty.2.2.1 (dM out a.1) a.2).1.isEmpty out) t
section
variable {α:Type}(key:α->List UInt8)
def gq(l:List α)(k:List UInt8):Nat:=(l.takeWhile λa=>decide (key a<k)).length
def lp(l:List α):Prop:=l.Pairwise λa b=>key a<key b
theorem YA(l:List α)(k:List UInt8):gq key l k<=l.length:=by unfold gq;exact(List.takeWhile_sublist _).length_le
theorem pP(a:α)(l:List α)(k:List UInt8):gq key (a::l) k=if key a<k then gq key l k+1 else 0:=by unfold gq;rw[List.takeWhile_cons];by_cases h:key a<k;simp[h];simp[h]
end
theorem LK(syn:Int)(v:List UInt8):∀l,gN syn v true l=l
 |[]=>rfl
 |x::t=>by rw[gN,if_neg (by simp)];simp[LK syn v t]
theorem Ro(syn:Int)(v:List UInt8):∀l:List (List UInt8),inM syn l (gV syn v)=false->gN syn v false l=l.take (gq (gV syn) l (gV syn v))++v::l.drop (gq (gV syn) l (gV syn v))
 |[],_=>rfl
 | x::t,h=>by
   simp only[inM,List.any_cons,ajC,decide_eq_false_iff_not]at h;rw[gN,pP];by_cases hx:gV syn x<gV syn v
   .have hx2:¬gV syn v<gV syn x:=λe=>aio _ (ai8 e hx)
    rw[if_pos hx,if_neg (λe=>hx2 e.2),decide_eq_false hx2];simp only[ajj,ahJ,aiP,ajU,ahL];rw[Ro syn v t (by simpa[inM]using h.2)]
   .have hx2:gV syn v<gV syn x:=by
     rcases ajn.1 (aiw.1 hx)with e|e
     .exact e
     .exact absurd e.symm h.1
    rw[if_neg hx,if_pos ⟨rfl,hx2⟩,decide_eq_true hx2];simp[LK]
abbrev dQ(a:Atr):List UInt8:=af a.1
theorem Ul(n:List UInt8):∀l:List Atr,lp dQ l->dM l n=match l[gq dQ l (af n)]? with
  |some a=>if af a.1=af n then a.2 else[]
  |none=>[]
 |[],_=>rfl
 | a::t,h=>by
   obtain⟨h1,h2⟩:=ahR.1 h;rw[dM,pP];by_cases hx:dQ a<af n
   .have hne:¬af a.1=af n:=λe=>by rw[show dQ a=af a.1 from rfl,e]at hx;exact aio _ hx
    rw[if_pos hx,if_neg hne,Ul n t h2,aiO]
   .rw[if_neg hx,ah0];simp only;by_cases he:af a.1=af n
    .rw[if_pos he,if_pos he]
    .rw[if_neg he,if_neg he];have hlt:af n<dQ a:=by
      rcases ajn.1 (aiw.1 hx)with e|e
      .exact e
      .exact absurd e.symm he
     have hno:∀u:List Atr,(∀b∈u,dQ a<dQ b)->dM u n=[]:=λu=>by
      induction u with
      |nil=>intro _;rfl
      | cons b u ih =>
        intro hb;rw[dM,if_neg,ih (λc hc=>hb c (by simp[hc]))];intro e;have h3:=ai8 hlt (hb b (by simp));rw[show dQ b=af b.1 from rfl,e]at h3;exact aio _ h3
     exact hno t h1
theorem Ta(n:List UInt8)(vs:List (List UInt8)):∀l:List Atr,(∀a∈l,af n≠af a.1)->pU n vs true l=l
 |[],_=>rfl
 |a::t,h=>by rw[pU,if_neg (by simp),if_pos (h a (by simp)),ajk,Ta n vs t (λb hb=>h b (by simp[hb]))];rfl
theorem X9(n:List UInt8)(vs:List (List UInt8)):∀l:List Atr,lp dQ l->pU n vs false l=match l[gq dQ l (af n)]? with
  |some a=>if af a.1=af n then l.set (gq dQ l (af n)) (n,vs)else l.take (gq dQ l (af n))++(n,vs)::l.drop (gq dQ l (af n))
  |none=>l++[(n,vs)]
 |[],_=>rfl
 | a::t,h=>by
   obtain⟨h1,h2⟩:=ahR.1 h;rw[pU,pP];by_cases hx:dQ a<af n
   .have hx2:af a.1<af n:=hx;have hne:af n≠af a.1:=λe=>by rw[e]at hx2;exact aio _ hx2
    rw[if_pos hx,if_neg (λe=>e.2 hx2),if_pos hne,decide_eq_true hx2,aiO];simp only[aiH,ajj,ahJ,ajy,aiP,ajU,ahL];rw[X9 n vs t h2];rcases t[gq dQ t (af n)]? with _|b
    .rfl
    .simp only;split<;>rfl
   .have hx2:¬af a.1<af n:=hx;rw[if_neg hx,if_pos ⟨rfl,hx2⟩,decide_eq_false hx2,ah0];have hge:∀b∈t,af n≠af b.1:=λb hb e=>by have h3:af a.1<af b.1:=h1 b hb;rw[<- e]at h3;exact hx2 h3
    simp only[aiX,ajB,ajV,aiC,ai5,ahJ,ahL];rw[Ta n vs t hge];by_cases he:af a.1=af n
    .rw[if_pos he,if_neg (λq=>q he.symm)];rfl
    .rw[if_neg he,if_pos (λq=>he q.symm)];rfl
theorem Q8{α:Type}(l:List α)(c:Nat)(v:α):(l.take c++v::l.drop c).Perm (v::l):=by refine List.perm_middle.trans ?_;rw[aiQ]
theorem IB{α:Type}{l:List α}{c:Nat}{v b:α}:b∈l.take c++v::l.drop c↔b=v\/b∈l:=by rw[(Q8 l c v).mem_iff,ahc]
theorem IA{α:Type}{key:α->List UInt8}{v:α}:∀{l:List α},lp key l->(∀x∈l,key x≠key v)->lp key (l.take (gq key l (key v))++v::l.drop (gq key l (key v)))
 |[],_,_=>by simp[lp]
 | a::t,h,hn=>by
   obtain⟨h1,h2⟩:=ahR.1 h;rw[pP];by_cases hx:key a<key v
   .rw[if_pos hx];simp only[aiP,ajU,ahL];refine ahR.2 ⟨λb hb=>?_,IA h2 λx hxx=>hn x (by simp[hxx])⟩;rcases IB.1 hb with rfl|hb
    .exact hx
    .exact h1 b hb
   .rw[if_neg hx];have hlt:key v<key a:=by
     rcases ajn.1 (aiw.1 hx)with e|e
     .exact e
     .exact absurd e.symm (hn a (by simp))
    simp only[aiC,ai5,ahJ];refine ahR.2 ⟨λb hb=>?_,h⟩;rcases ahc.1 hb with rfl|hb
    .exact hlt
    .exact ai8 hlt (h1 b hb)
theorem S6{ts:List Typ}{n m:List UInt8}(h:af n=af m):fw ts n=fw ts m:=by unfold fw;rw[h]
def InV(syn:Int)(l:List (List UInt8)):Prop:=lp (gV syn) l/\∀v∈l,(dh syn v).isSome=true
theorem YG{syn:Int}{single:Bool}:∀{vs l:List (List UInt8)},InV syn l->(eS syn single l vs).2=0->InV syn (eS syn single l vs).1
 | [],l,h,h0=>by
   rw[eS]at h0⊢;split
   .rename_i hc;rw[if_pos hc]at h0;cases h0
   .exact h
 | v::vs,l,h,h0=>by
   rw[eS]at h0⊢;rcases hv:dh syn v with _|n
   .rw[hv]at h0;cases h0
   .rw[hv]at h0;simp only at h0⊢;split
    .rename_i hc;rw[if_pos hc]at h0;cases h0
    .rename_i hc;rw[if_neg hc]at h0;have hk:gV syn v=n:=(by simp[gV,hv]);have hin:inM syn l (gV syn v)=false:=(by rw[hk];simpa using hc);refine YG ?_ h0;rw[Ro syn v l hin];refine⟨IA h.1 λx hx e=>?_,λx hx=>?_⟩
     .simp only[inM,aiU,decide_eq_true_eq]at hin;exact hin x hx e
     .rcases IB.1 hx with rfl|hx
      .rw[hv];rfl
      .exact h.2 x hx
def InA(ts:List Typ)(l:List Atr):Prop:=lp dQ l/\∀a∈l,∃ty,fw ts a.1=some ty/\ty.1=a.1/\a.2≠[]/\InV ty.2.1 a.2/\(ty.2.2.1=true->a.2.length<=1)
theorem adx{ts:List Typ}{l:List Atr}{n:List UInt8}{ty:Typ}(h:InA ts l)(ht:fw ts n=some ty):InV ty.2.1 (dM l n):=by rw[Ul n l h.1];rcases hg:l[gq dQ l (af n)]? with _|a;exact⟨List.Pairwise.nil,λv hv=>by cases hv⟩;simp only;split;rename_i he;obtain⟨ty',h1,_,_,h4,_⟩:=h.2 a (ahN hg);rw[S6 he,ht]at h1;cases h1;exact h4;exact⟨List.Pairwise.nil,λv hv=>by cases hv⟩
theorem D4{α:Type}{key:α->List UInt8}{k:List UInt8}:∀{l:List α},lp key l->(∀a,l[gq key l k]?=some a->key a≠k)->∀x∈l,key x≠k
 |[],_,_,_,hx=>by cases hx
 | a::t,h,hc,x,hx=>by
   obtain⟨h1,h2⟩:=ahR.1 h;rw[pP]at hc;by_cases ha:key a<k
   .rw[if_pos ha]at hc;rcases ahc.1 hx with rfl|hx
    .intro e;rw[e]at ha;exact aio _ ha
    .exact D4 h2 (λb hb=>hc b (by simpa using hb)) x hx
   .rw[if_neg ha]at hc;have hne:=hc a (by simp);have hlt:k<key a:=by
     rcases ajn.1 (aiw.1 ha)with e|e
     .exact e
     .exact absurd e.symm hne
    rcases ahc.1 hx with rfl|hx
    .exact hne
    .intro e;have:=ai8 hlt (h1 x hx);rw[e]at this;exact aio _ this
theorem Za{α:Type}{key:α->List UInt8}{l:List α}{c:Nat}{a x:α}(h:lp key l)(hc:l[c]?=some a)(hk:key x=key a):lp key (l.set c x):=by
 have e:(l.set c x).map key=l.map key:=by rw[List.map_set,hk];obtain⟨hlt,rfl⟩:=ag8.1 hc;rw[<- List.getElem_map (f:=key) (h:=by simpa using hlt),List.set_getElem_self]
 have h2:(l.map key).Pairwise (· < ·):=ajF.2 h;rw[<- e]at h2;exact ajF.1 h2
theorem adL{ts:List Typ}{l:List Atr}{n:List UInt8}{vs:List (List UInt8)}{ty:Typ}(h:InA ts l)(ht:fw ts n=some ty)(hn:ty.1=n)(hv:vs≠[])(hi:InV ty.2.1 vs)(h1:ty.2.2.1=true->vs.length<=1):InA ts (pU n vs false l):=by
 have hnew:∃ty',fw ts n=some ty'/\ty'.1=n/\vs≠[]/\InV ty'.2.1 vs/\(ty'.2.2.1=true->vs.length<=1):=⟨ty,ht,hn,hv,hi,h1⟩;rw[X9 n vs l h.1];rcases hg:l[gq dQ l (af n)]? with _|a;simp only;have hno:=D4 (k:=af n) h.1 (λa ha=>by rw[hg]at ha;cases ha);have hc:gq dQ l (af n)=l.length:=Nat.le_antisymm (YA _ _ _) (List.getElem?_eq_none_iff.1 hg);have e:l++[(n,vs)]=l.take (gq dQ l (dQ (n,vs)))++(n,vs)::l.drop (gq dQ l (dQ (n,vs))):=by rw[show dQ (n,vs)=af n from rfl,hc,ahr,ahU]
 rw[e];refine⟨IA h.1 hno,λb hb=>?_⟩;rcases IB.1 hb with rfl|hb;exact hnew;exact h.2 b hb;simp only;split;rename_i he;refine⟨Za h.1 hg he.symm,λb hb=>?_⟩;rcases ajo hb with hb|rfl;exact h.2 b hb;exact hnew;rename_i he;have hno:=D4 (k:=af n) h.1 (λb hb=>by rw[hg]at hb;cases hb;exact he);refine⟨IA (key:=dQ) (v:=(n,vs)) h.1 hno,λb hb=>?_⟩;rcases IB.1 hb with rfl|hb;exact hnew;exact h.2 b hb
theorem abH(syn:Int)(v:List UInt8)(l:List (List UInt8)):gN syn v false l≠[]:=by rcases l with _|⟨x,t⟩;simp[gN];simp[gN]
theorem YF{syn:Int}{single:Bool}:∀{vs l:List (List UInt8)},l≠[]\/vs≠[]->(eS syn single l vs).2=0->(eS syn single l vs).1≠[]
 | [],l,h,h0=>by
   rw[eS]at h0⊢;split
   .rename_i hc;rw[if_pos hc]at h0;cases h0
   .rcases h with h|h
    .exact h
    .exact absurd rfl h
 | v::vs,l,h,h0=>by
   rw[eS]at h0⊢;rcases hv:dh syn v with _|n
   .rw[hv]at h0;cases h0
   .rw[hv]at h0;simp only at h0⊢;split
    .rename_i hc;rw[if_pos hc]at h0;cases h0
    .rename_i hc;rw[if_neg hc]at h0;exact YF (.inl (abH syn v l)) h0
theorem P3{syn:Int}{single:Bool}:∀{vs l:List (List UInt8)},(eS syn single l vs).2=0->single=true->(eS syn single l vs).1.length<=1
 | [],l,h0,hs=>by
   rw[eS]at h0⊢;split
   .rename_i hc;rw[if_pos hc]at h0;cases h0
   .rename_i hc;have:¬1<l.length:=λe=>hc ⟨hs,e⟩
    simp only;omega
 | v::vs,l,h0,hs=>by
   rw[eS]at h0⊢;rcases hv:dh syn v with _|n
   .rw[hv]at h0;cases h0
   .rw[hv]at h0;simp only at h0⊢;split
    .rename_i hc;rw[if_pos hc]at h0;cases h0
    .rename_i hc;rw[if_neg hc]at h0;exact P3 h0 hs
theorem S5{ts:List Typ}{n:List UInt8}{ty:Typ}(h:fw ts n=some ty):ty∈ts/\af ty.1=af n:=by unfold fw at h;exact⟨aju h,by simpa using ajK h⟩
theorem Yo{ts:List Typ}:∀{l out:List Atr},InA ts out->(vK ts out l).2=0->InA ts (vK ts out l).1
 |[],out,h,_=>h
 | a::t,out,h,h0=>by
   rw[vK]at h0⊢;rcases ht:fw ts a.1 with _|ty
   .rw[ht]at h0;cases h0
   .rw[ht]at h0;simp only at h0⊢;split
    .rename_i hc;rw[if_pos hc]at h0;cases h0
    .rename_i hc;rw[if_neg hc]at h0;split
     .rename_i hd;rw[if_pos hd]at h0;exact absurd h0 hd
     .rename_i hd;rw[if_neg hd]at h0;simp only[ne_eq,ajp]at hd;have hne:=YF (l:=dM out a.1) (.inr hc) hd;have hem:(eS ty.2.1 ty.2.2.1 (dM out a.1) a.2).1.isEmpty=false:=(by simpa using hne);rw[hem]at h0⊢;have hts:=S5 ht;exact Yo (adL h (by rw[S6 hts.2];exact ht) rfl hne (YG (adx h ht) hd) (P3 hd)) h0
set_option maxHeartbeats 8000000
set_option maxRecDepth 100000
theorem acH{α:Type}{key:α->List UInt8}{k:List UInt8}:∀{l:List α},lp key l->∀(h:Nat) (hh:h<l.length),(key l[h]<k↔h<gq key l k)
 | a::t,hr,h,hh=>by
   obtain⟨h1,h2⟩:=ahR.1 hr;rw[pP];by_cases ha:key a<k
   .rw[if_pos ha];rcases h with _|h
    .exact⟨λ_=>by omega,λ_=>ha⟩
    .have:=acH (k:=k) h2 h (by simpa using hh);simp only[List.getElem_cons_succ,this];omega
   .rw[if_neg ha];rcases h with _|h
    .exact⟨λe=>absurd e ha,λe=>by omega⟩
    .constructor
     .intro e;have hm:key a<key ((a::t)[h+1]'hh):=h1 _ (by simp);exact absurd (ai8 hm e) ha
     .intro e;omega
theorem aad{α:Type}{key:α->List UInt8}{k:List UInt8}{l:List α}(hr:lp key l):(l.any λa=>decide (key a=k))=match l[gq key l k]? with
  |some a=>decide (key a=k)
  |none=>false:=by
 cases h:l[gq key l k]? with
 | none =>
   simp only[aiU,decide_eq_true_eq];exact D4 hr (λa ha=>by rw[h]at ha;cases ha)
 | some a =>
   simp only;by_cases he:key a=k
   .rw[decide_eq_true he,ajD];exact⟨a,ahN h,by simpa using he⟩
   .rw[decide_eq_false he];simp only[aiU,decide_eq_true_eq];exact D4 hr (λb hb=>by rw[h]at hb;cases hb;exact he)
theorem aam{syn:Int}{single:Bool}{l:List (List UInt8)}{v:List UInt8}{vs:List (List UInt8)}(h0:(eS syn single l (v::vs)).2=0):
  (dh syn v).isSome=true/\inM syn l (gV syn v)=false/\eS syn single l (v::vs)=eS syn single (gN syn v false l) vs:=by
 rw[eS]at h0⊢;rcases hv:dh syn v with _|n;rw[hv]at h0;cases h0;rw[hv]at h0;simp only at h0⊢;have hk:gV syn v=n:=by simp[gV,hv]
 split;rename_i hc;rw[if_pos hc]at h0;cases h0;rename_i hc;exact⟨rfl,by rw[hk];simpa using hc,rfl⟩
theorem abG{syn:Int}{v:List UInt8}{l:List (List UInt8)}(h:inM syn l (gV syn v)=false):(gN syn v false l).length=l.length+1:=by rw[Ro syn v l h,(Q8 _ _ _).length_eq,ahj]
theorem Sn{syn:Int}{single:Bool}:∀{vs l:List (List UInt8)},(eS syn single l vs).2=0->(eS syn single l vs).1.length=l.length+vs.length
 | [],l,h0=>by
   rw[eS]at h0⊢;split
   .rename_i hc;rw[if_pos hc]at h0;cases h0
   .rfl
 |v::vs,l,h0=>by obtain⟨h1,h2,h3⟩:=aam h0;rw[h3]at h0⊢;rw[Sn h0,abG h2,ahj];omega
theorem aft(ts:List Typ):InA ts []:=⟨List.Pairwise.nil,λa ha=>by cases ha⟩
end Go.Proofs.YtcmfcpjnhephaaaGreatDoor.Av
