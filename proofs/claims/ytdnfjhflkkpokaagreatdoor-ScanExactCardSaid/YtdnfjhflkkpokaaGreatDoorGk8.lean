/- Joined texts of the walk, made small by a program. -/
import Derived.Test.YtdnfjhflkkpokaaGreatDoorGk5
import Derived.Test.YtdnfjhflkkpokaaGreatDoorGk7
import Derived.Test.YtdnfjhflkkpokaaGreatDoorGk4
import Derived.Shelf.Sort.Plain
import Derived.Test.YtdnfjhflkkpokaaGreatDoorRows
import Derived.KernelRfl
import Derived.Sort.Walk0
set_option linter.unusedSimpArgs false
set_option linter.unusedVariables false
namespace Go.Proofs.YtdnfjhflkkpokaaGreatDoor.Av
open Go Go.Sort
variable {L:List Blk}{K:aoY}
abbrev aD(xs:List (List UInt8)):List AV:=xs.map AV.str
theorem VC{xs:List (List UInt8)}{sep:List UInt8}{cap:Option Nat}(H:xs.length<=1100000)(G:(Lib.join xs sep).length<=140737488355328)(h:K (.str (Lib.join xs sep)) L):
  aoX 126 [.sl (aD xs) xs.length cap,.str sep] L K :=
 dD Tryz.func126 rfl asq (λw0 S0 E w vs D y=>by
  simp only[VRL,VR]at y;obtain⟨_,_,rfl,⟨p,c,rfl,r,_,C⟩,_,_,rfl,rfl,rfl⟩:=y;by_cases t:xs=[];subst t;exact(Tryz.strings_Join_none p c ⟨⟨sep⟩⟩ w).mono λe w' ⟨q,A⟩=>⟨_,q,by simp[VR,Lib.join],by subst A;exact EA.refl _⟩
  rcases C with⟨B,_⟩|⟨b,o,rfl,f⟩;exact absurd (apK.1 B) t;have k:∀(j:Nat) x,(xs.map λs=>(⟨⟨s⟩⟩:ByteArray))[j]?=some x->w.cell? ⟨b,o+j,none⟩=some (.string x):=λj x l=>by rw[apS]at l;rcases hxs:xs[j]? with _|s;rw[hxs]at l;cases l;rw[hxs]at l;simp only[apl,ao1]at l;subst l;obtain⟨v,g1,z⟩:=f.get (i:=j) (a:=.str s) (by rw[apS,hxs];rfl);simp only[VR]at z;subst z;exact D.mem _ _ _ g1
  have n:b<w.heap.size:=by have u:0<xs.length:=apQ.2 t;have F:=k 0 ⟨⟨xs[0]⟩⟩ (by rw[apS,ao8 u];rfl);rcases apt b w.heap.size with g|g;exact g;simp[World.cell?,Array.getElem?_eq_none g]at F
  have m:(xs.map λs=>(⟨⟨s⟩⟩:ByteArray)).map (·.data.toList)=xs:=(by rw[apq];exact List.map_id'' (λ_=>rfl) xs);have key:=Tryz.strings_Join b o c (xs.map λs=>(⟨⟨s⟩⟩:ByteArray)) ⟨⟨sep⟩⟩ w k n (by rw[apm];omega) (by rw[apm];exact r) (by rw[m];exact G);rw[m]at key;simp only[apm]at key;exact key.mono λe w' ⟨q,d⟩=>⟨_,q,by simp[VR],⟨λb n=>d.block b n,d.size,d.os,d.tape,d.output⟩⟩) h
theorem Rel.putStrs{w0:World}{S0:SB}{E:Env}{L:List Blk}{w:World}(h:Rel w0 S0 E L w){i:Nat}{xs d:List (List UInt8)}{rest:List AV}{c:Loc}(p:L[i]?=some (.cells (aD xs++rest)))(m:E.loc i=some c)(r:d.length=xs.length)(q:Nat):
  Rel w0 S0 E (L.set i (.cells (aD d++rest))) (putRow encStr (Sort.ahead w q) c.blk c.off d.toArray):=by
 obtain⟨c',cs,ty,fr,t,s,C,h4,z,u⟩:=h.blk i _ p;rw[m]at t;cases t;have x:c.blk<w.heap.size:=(apP.1 s).1;have B:(putRow encStr (Sort.ahead w q) c.blk c.off d.toArray).heap[c.blk]?=some (.cells (putCells encStr c.off d.toArray cs) ty fr):=by simp[putRow,mapBlock,Sort.ahead,aqX,s,onCells]
 have f:(aD xs++rest).length=xs.length+rest.length:=asp;refine h.turn (k':=.cells (aD d++rest)) p rfl m asp (λb y=>?_) rfl rfl rfl ⟨c,_,ty,fr,m,B,by simp[putCells,C],?_,λj a l=>?_,u⟩ (λ_ _ e=>by cases e);have:c.blk≠b:=λe=>y e.symm
 simp[putRow,mapBlock,Sort.ahead,aqX,this];rw[f]at h4;simp only[apd,apm,r];omega;rw[f]at h4;have F:j<d.length+rest.length:=by have:=(aoZ.1 l).1;simpa using this
 have k:c.off+j<cs.size:=aso;have o:(putCells encStr c.off d.toArray cs)[c.off+j]?=some (if c.off<=c.off+j/\c.off+j<c.off+d.length then encStr (d.toArray[c.off+j-c.off]!)else cs[c.off+j]):=by simp[putCells,k]
 by_cases g:j<d.length;have A:a=.str d[j]:=by rw[ao4 (by simpa using g)]at l;simpa[g]using l.symm
 subst A;refine⟨_,o,?_⟩;rw[if_pos aso,show c.off+j-c.off=j by omega];simp[VR,encStr,g];have n:(aD xs++rest)[j]?=some a:=by rw[ape (by simp;omega)]at l⊢;simpa[r]using l
 obtain⟨v,g1,D⟩:=z j a n;refine⟨v,?_,D⟩;rw[o,if_neg aso,<- g1];simp[k]
theorem YO{w0:World}{S0:SB}{E:Env}{L:List Blk}{w:World}(h:Rel w0 S0 E L w){i:Nat}{xs:List (List UInt8)}{rest:List AV}{c:Loc}(l:L[i]?=some (.cells (aD xs++rest)))(f:E.loc i=some c):
  Holds encStr w c.blk c.off xs.toArray/\c.blk<w.heap.size:=by
 obtain⟨c',cs,ty,fr,d,b,p,h4,n,g⟩:=h.blk i _ l;rw[f]at d;cases d;refine⟨λj k=>?_,(apP.1 b).1⟩;have a:j<xs.length:=by simpa using k
 obtain⟨v,g1,e⟩:=n j (.str xs[j]) (by rw[ao4 (by simpa using a)];simp[a]);simp only[VR]at e;subst e;refine⟨by simp[World.cell?,encStr,b,g1,a],?_⟩;have m:=g (c.off+j) aso (by simp only[apd,apm]at h4;omega);simp only[World.frozen?,b];obtain⟨o,q⟩:=fr;simp only at m;simp only[arA,decide_eq_false_iff_not];omega
theorem jC{P:Program}{f:FuncId}{fn:Func}(b:P.funcs[f]?=some fn)(a:fn.body.isSome=true)(d:(fn.name == "runtime.NumGoroutine")=false)(args:Array Value)(w:World):(callFunc f args).run P w=.ok (.enter f args) w:=by
 simp only[callFunc,ao7,run_program,ao9,b,d];cases h:fn.body with
 |none=>simp[h]at a
 |some c=>simp
def fE(xs:List (List UInt8)):List (List UInt8):=xs.mergeSort λx y=>decide (x<=y)
theorem akR{xs:List (List UInt8)}{i:Nat}{cp:Option Nat}{rest:List AV}(o:xs≠[])(v:xs.length<=1100000)(m:L[i]?=some (.cells (aD xs++rest)))(h:K (.tup []) (L.set i (.cells (aD (fE xs)++rest)))):
  aoX 132 [.lsl i 0 xs.length cp 1] L K:=λw0 S0 E w vs k j=>by
 simp only[VRL,VR]at j;obtain⟨_,_,rfl,⟨c,p,d,g,rfl,r,n,_,_⟩,rfl⟩:=j;have l:0<xs.length:=apQ.2 o;have f:d=c.off:=by have:=r aso;omega
 subst f;obtain⟨u,a⟩:=YO k m g;refine .inl ⟨jC Tryz.func132 rfl asq _ _,(Tryz.slices_Sort_string c.blk c.off p xs w u a aso).mono ?_⟩;rintro e w' ⟨rfl,q,os,rfl⟩;have s:=k.putStrs m g (d:=fE xs) (by simp[fE]) q;refine⟨E,_,_,_,rfl,.refl E,h,by simp[VR,VRL],s.grown ?_⟩;exact⟨λb t=>arS t,by simp[grow],rfl,rfl,rfl⟩
theorem aiu{cap:Option Nat}(h:K (.tup []) L):aoX 132 [.sl [] 0 cap] L K :=
 dD Tryz.func132 rfl asq (λw0 S0 E w vs f a=>by simp only[VRL,VR]at a;obtain⟨_,_,rfl,⟨p,c,rfl,_⟩,rfl⟩:=a;exact(Tryz.slices_Sort_string_none p c w).mono λe w' ⟨d,b⟩=>⟨_,d,by simp[VR,VRL],by subst b;exact EA.refl _⟩) h
theorem alx{xs:List (List UInt8)}{sep:List UInt8}{i:Nat}{cp:Option Nat}(C:xs≠[])(D:xs.length<=1100000)(z:(Lib.join xs sep).length<=140737488355328)(A:L[i]?=some (.cells (aD xs)))(h:K (.str (Lib.join xs sep)) L):
  aoX 126 [.lsl i 0 xs.length cp 1,.str sep] L K:=λw0 S0 E w vs p r=>by
 simp only[VRL,VR]at r;obtain⟨_,_,rfl,⟨c,t,d,y,rfl,B,o,_,_⟩,_,_,rfl,rfl,rfl⟩:=r;have q:0<xs.length:=apQ.2 C;have n:d=c.off:=by have:=B aso;omega
 subst n;obtain⟨v,m⟩:=YO (rest:=[]) p (by simpa using A) y;have g:∀(j:Nat) x,(xs.map λs=>(⟨⟨s⟩⟩:ByteArray))[j]?=some x->w.cell? ⟨c.blk,c.off+j,none⟩=some (.string x):=λj x l=>by have f:j<xs.length:=(by have:=(aoZ.1 l).1;simpa using this);have e:=(v j (by simpa using f)).1;rw[apS,ao8 f]at l;simp only[apl,ao1]at l;subst l;rw[e];simp[encStr,f]
 have k:(xs.map λs=>(⟨⟨s⟩⟩:ByteArray)).map (·.data.toList)=xs:=by rw[apq];exact List.map_id'' (λ_=>rfl) xs
 have key:=Tryz.strings_Join c.blk c.off t (xs.map λs=>(⟨⟨s⟩⟩:ByteArray)) ⟨⟨sep⟩⟩ w g m (by rw[apm];omega) (by rw[apm];exact o) (by rw[k];exact z);rw[k]at key;simp only[apm]at key;refine .inl ⟨jC Tryz.func126 rfl asq _ _,key.mono ?_⟩;rintro e w' ⟨rfl,a⟩;exact⟨E,_,_,_,rfl,.refl E,h,by simp[VR],p.grown ⟨λb u=>a.block b u,a.size,a.os,a.tape,a.output⟩⟩
end Go.Proofs.YtdnfjhflkkpokaaGreatDoor.Av
set_option maxRecDepth 100000
namespace Go.Proofs.YtdnfjhflkkpokaaGreatDoor.Av
open Go
def W3:LSO:=[Aw 4]
def W2:LSO:=[Ak 5]
def W0:LSO:=[Aa 11 0,Ah 12 11,Ac 13 0]
def WZ:LSO:=[Al 14 13 12]
def WY:LSO:=[Am 15 1 11 13,Ab 16 1 15,Aa 7 16]
def WX:LSO:=[Ak 8]
def WW:LSO:=[Aa 17 7,Ah 18 17,Ac 19 0]
def WV:LSO:=[Al 20 19 18]
def WU:LSO:=[Am 21 2 17 19,As 22 2 21,Bm 10,Ap 2 10 22]
def WT:LSO:=[Aa 23 1]
def Ut:List (aw×Kd):=
 [A9 24 0 10,AA 25 1 24 0 0,Bd 26 46 25 0 0,A9 27 1 10,AA 28 1 27 0 0]
def Rn:List aw :=
 [⟨(some 29),(.call 104 [(tm 28)]),none⟩,⟨(some 30),(.build [(.str []),(.str [])] [(0,(1,(tm 26))),(1,(1,(tm 29)))]),none⟩,⟨none,(.store 2 (tm 10) (tm 30)),none⟩]
def Us:List (aw×Kd):=
 [AD 31 8,A9 32 0 10,AA 33 1 32 0 0,od 34 (.bin .add (tm 33) (.av (.str [61]))) .pure,A9 35 1 10,AA 36 1 35 0 0,Bd 37 131 36 0 0,od 38 (.bin .add (tm 34) (tm 37)) .pure,
 od 39 (.bslice false 1 1 [(.str [])] [(0,(1,(tm 38)))]) (.read 0 0)]
def Rm:List aw :=
 [⟨(some 40),(.app 2 1 16 [(.str [])] (tm 31) (tm 39)),none⟩,⟨(some 8),(.mv (tm 40)),none⟩]
def Ur:LSO:=[Ai 41 19 1,Aa 19 41]
def Uq:LSO:=[Aa 42 1]
def Up:LSO:=[Aa 43 8,Aj 44 132 43]
def Uo:LSO:=[Aa 45 5,Aa 46 8,o1 47 (.call 126 [(tm 46),(.av (.str [43]))]),B4 48 47,BD 49 45 48,Aa 5 49]
def Un:LSO:=[Ai 50 13 1,Aa 13 50]
def Um:LSO:=[Aa 51 5,o1 52 (.call 126 [(tm 51),(.av (.str [44]))]),Aa 4 52]
def Ex:aK:=⟨53,(ash W3 [] (ash W2 [] (.seq (ash W0 [] (ask 0 (ash WZ [] (.seq (asl 14 0) (.seq (.block 1 (ash WY C6 (ash WX [] (.seq (ash WW [] (ask 2 (ash WV [] (.seq (asl 20 2) (.seq (.block 3 (ash WU C6 (.seq (ash WT [] (asi 23 (.dregM Ut Rn CT) .skip)) (.dregM Us Rm CY)))) (.sreg Ur C4)))))) (.seq (ash Uq [] (asi 42 (.sreg Up CZ) .skip)) (.sreg Uo CB)))))) (.sreg Un C4)))))) (ash Um C6 .ret)))),[(.tmp 4)]⟩
attribute [push_cast] W3 W2 W0 WZ WY WX WW WV WU WT Ut Rn Us Rm Ur Uq Up Uo Un Um
theorem VW:aL Tryz.prog (λr i=>if r=11/\i=9 then 2 else 1) 85=some Ex.raw:=asq
attribute [push_cast] Ex
variable {L:List Blk}{K:aoY}
set_option maxHeartbeats 8000000
set_option maxRecDepth 100000
def avT(key:Bool)(a:Ava):List UInt8:=if key=true then aj a.1++[61]++gU (b9 a.2)else a.1++[61]++gU a.2
def dx(key:Bool)(r:Rdn):List UInt8:=Lib.join (if key=true then fE (r.map (avT key))else r.map (avT key)) [43]
def bj(key:Bool)(d:List Rdn):List UInt8:=Lib.join (d.map (dx key)) [44]
theorem SP(n:Nat):∀(s:List UInt8) (i:Nat),(wrL n i s).length<=3*s.length
 |[],_=>by simp[wrL]
 |c::s,i=>by have b:=SP n s (i+1);have a:=akF i n c;simp only[wrL,apd,apb];omega
theorem agH(l:List (List UInt8)):AV.frzL (aD l)=aD l:=by rw[AV.frzL_eq,apq];rfl
theorem agd{xs:List (List UInt8)}{sep:List UInt8}{i n:Nat}(b:n=xs.length)(c:xs.length<=1100000)(a:(Lib.join xs sep).length<=140737488355328)(h:K (.str (Lib.join xs sep)) L):
  aoX 126 [.gsl (aD xs) n i 1,.str sep] L K:=by
 subst b;exact iK (by simpa only[AV.frzL,AV.frz,agH]using VC (cap:=none) c a h)
theorem adC{xs:List (List UInt8)}{sep:List UInt8}{i n:Nat}{cp:Option Nat}(d:n=xs.length)(b:xs≠[])(c:xs.length<=1100000)(a:(Lib.join xs sep).length<=140737488355328)(e:L[i]?=some (.cells (aD xs)))(h:K (.str (Lib.join xs sep)) L):
  aoX 126 [.lsl i 0 n cp 1,.str sep] L K:=by
 subst d;exact alx b c a e h
theorem akO{d:List Rdn}{cap:Option Nat}(hn:d.length<=1000)(hr:∀r∈d,r.length<=1000/\∀a∈r,a.1.length<=10000/\a.2.length<=10000)(H:∀r∈d,(dx false r).length<=140737488355328)(N:(bj false d).length<=140737488355328)(h:K (.str (bj false d)) L):
  aoX 85 [.sl (d.map am) d.length cap,.bool false] L K:=by
 replace h:=hid h;have an:=hid (λk=>@mY d k);replace hr:=hid hr;replace H:=hid H;have V:∀(W:List Blk) (j:Nat) (A:Blk),L.length<=j->(L++W).set j A=L++W.set (j-L.length) A:=λW j A D=>apu _ _ D
 replace V:=hid V;refine aoW VW ?_;refine bR (l:=[]) (n:=0) 5 1 rfl (aps 1).symm ?_;refine ak (λn T' L'=>∃(i:Nat) (all:List (List UInt8)) (Z:List Blk),n=d.length-i/\i<=d.length/\Hid (all=(d.take i).map (dx false))/\L'[L.length]?=some (.spare i 1)/\T'=[(13,.int .i64 (i:Int)),(12,.int .i64 d.length),(11,.sl (d.map am) d.length cap),(5,.gsl (aD all) i L.length 1),(1,.bool false)]/\L'=L++Z) ass ⟨0,[],[.spare 0 1],rfl,ao2 _,hid rfl,asp,rfl,rfl⟩ ?_;rintro _ _ _ ⟨i,all,X,rfl,hi,x,ho,rfl,rfl⟩;by_cases w:i<d.length
 .have g1:(i:Int)<(d.length:Int):=aso;have g2:=aoV i aso;have e2:=an.o i w;have M:d.getD i []∈d:=(by rw[apo,ao8 w];exact apZ _);have O:=hr.o _ M;have G:=H.o _ M;obtain⟨r,J⟩:=aoT (d.getD i []);have I:d.take (i+1)=d.take i++[r]:=(by rw[aph w,<- J];simp[w]);rw[J]at e2 O G;clear J M;obtain⟨ap,z⟩:=O;replace z:=hid z;replace I:=hid I;have S:=(aoZ.1 ho).1;rw[apd]at S;replace S:=hid S;refine wk ?_;refine ak (λn T' L'=>∃(k:Nat) (v:AV) (Z:List Blk),n=r.length-k/\k<=r.length/\X.length<=Z.length/\L'[L.length]?=some (.spare i 1)/\Hid ((v=.sl [] 0 (some 0)/\k=0)\/∃j,(0<k/\L.length<j)/\v=.lsl j 0 k none 1/\L'[j]?=some (.cells (aD ((r.take k).map (avT false)))))/\T'=[(19,.int .i64 (k:Int)),(18,.int .i64 r.length),(17,am r),(8,v),(13,.int .i64 (i:Int)),(12,.int .i64 d.length),(11,.sl (d.map am) d.length cap),(5,.gsl (aD all) i L.length 1),(1,.bool false)]/\L'=L++Z) ass ⟨0,_,X,rfl,ao2 _,ao0 _,ho,hid (.inl ⟨rfl,rfl⟩),rfl,rfl⟩ ?_;rintro _ _ _ ⟨k,v,Z,rfl,hk,t,m,hv,rfl,rfl⟩;replace t:=hid t;by_cases u:k<r.length
  .have g3:(k:Int)<(r.length:Int):=aso;have g4:=aoV k aso;have e3:=gS u;have e4:k*2+2<=(bd r).length:=(by rw[dm];omega);obtain⟨⟨ty,B⟩,U⟩:∃a,r.getD k ([],[])=a:=⟨_,rfl⟩;have Q:(ty,B)∈r:=(by rw[<- U];simp[u]);have s:(r.take (k+1)).map (avT false)=(r.take k).map (avT false)++[ty++61::gU B]:=by rw[aph u];have:r[k]=(ty,B):=(by rw[<- U];simp[u]);rw[this];simp[avT]
   rw[U]at e3;simp only[pu]at e3;have P:=z.o _ Q;simp only at P;have f:B.length<=100000:=aso;have ad:=SP B.length B 0;have b1:(ty.length:Int)+1<=9223372036854775807:=aso;have b2:(ty.length:Int)+1+((gU B).length:Int)<=9223372036854775807:=(by unfold gU;omega);clear ad U Q P;replace s:=hid s;have q1:(k+1)*16<=140737488355328:=aso;have q2:k+1<=140737488355328:=aso;have q3:k<=140737488355327:=aso;rcases hv.o with⟨rfl,c⟩|⟨j,⟨E,ai⟩,rfl,D⟩;replace c:=hid c;have kk1:=@asv _ _ _ _ (iI f);refine wk ?_;refine ast aso (CutL (b:=?_)) ⟨k+1,.lsl (L.length+(Z.length+1)) 0 1 none 1,_,rfl,u,?_,?_,hid (.inr ⟨L.length+(Z.length+1),⟨aso,aso⟩,by rw[c.o],?_⟩),rfl,rfl⟩;have:=t.o;simp;omega;have:=t.o;simp;omega;rw[<- apc,ao4 (aoZ.1 m).1];exact m;rw[nu,nu,s.o,c.o];rfl
   .obtain⟨cur,g⟩:=aoT ((r.take k).map (avT false));have y:cur.length=k:=(by rw[<- g];simp;omega);rw[g]at D;have R:(L++(Z++[Blk.cells [.str ty,.str B]]))[j]?=some (.cells (aD cur)):=by rw[<- apc,ao4 (aoZ.1 D).1];exact D
    have f2:(L++(Z++[Blk.cells [.str ty,.str B]])).set j .dead=L++(Z++[Blk.cells [.str ty,.str B]]).set (j-L.length) .dead:=V.o _ _ _ aso;have f3:k<=(aD cur).length:=(by simp[y]);have f4:(aD cur).take k=aD cur:=apA (by simp[y]);replace g:=hid g;replace y:=hid y;have al:=hid (show j≠L.length by omega);have Y:=hid f2
    repeat' first
     |refine bH ?_
     | (first|refine bv asq ?_|refine aP asq ?_|refine aS ?_|refine cT ?_|refine bJ (fun _=>?_)|refine aH ?_|refine bz ?_|refine iI f ?_|refine bg (iI f ⟨rfl,rfl⟩) (iI f ⟨rfl,rfl⟩) ?_|refine aM (iI f ⟨rfl,rfl⟩) ?_)
       refine sm ?_
     | (first|refine bp asq ?_|refine bm ?_|refine aR ?_|refine bw ?_|refine bP (aG ?_))
       refine sl ?_
     |exact bL
     |first|apply bM|apply bq|apply bN|apply br|apply bO|apply bu
     |refine aV ?_
     |refine aQ ?_
     |first|refine aT rfl ?_|refine aU rfl ?_|refine aB rfl ?_ ?_|refine aX rfl (λ_=>?_) (λ_=>?_)|refine aW rfl (λ_=>?_) (λ_=>?_)
     |((first|refine aA (λ_=>?_) (λ_=>?_)|refine aE (λ_=>?_) (λ_=>?_))<;>try refine sm ?_)
     |refine And.intro trivial ?_
     |refine And.intro aso ?_
     |refine be rfl (λ_=>?_) (λ_=>?_)
     |refine And.intro ?_ ?_
    rw[y.o];exact ao0 _;have hA:((Z++[Blk.cells [.str ty,.str B]]).set (j-L.length) .dead).length=Z.length+1:=asp;refine ast aso (CutL (b:=?_)) ⟨k+1,.lsl (L.length+(Z.length+1)) 0 (k+1) none 1,_,rfl,u,?_,?_,hid (.inr ⟨L.length+(Z.length+1),⟨aso,aso⟩,rfl,?_⟩),rfl,rfl⟩;have:=t.o;simp;omega;have:=t.o;simp;omega;rw[<- apc,<- Y.o,ao4 asp,api al.o,<- apc,ao4 (aoZ.1 m).1];exact m;rw[nu,<- hA,Yv,s.o,g.o];simp
  have F:k=r.length:=aso;subst F;have g3:¬(r.length:Int)<(r.length:Int):=aso;have q4:(i+1)*16<=140737488355328:=aso;have q5:i+1<=140737488355328:=aso;have q:dx false r=Lib.join (r.map (avT false)) [43]:=(by simp[dx]);rw[q]at G;have p:(d.take (i+1)).map (dx false)=all++[Lib.join (r.map (avT false)) [43]]:=by rw[I.o,apz,<- x.o,<- q];rfl
  have f0:(L++Z).set L.length (.spare (i+1) 1)=L++Z.set 0 (.spare (i+1) 1):=(by rw[V.o _ _ _ (ao0 _),aqq]);have R:(L++Z.set 0 (.spare (i+1) 1))[L.length]?=some (.spare (i+1) 1):=by rw[<- f0,apB,if_pos rfl,if_pos (aoZ.1 m).1]
  replace q:=hid q;replace p:=hid p;replace R:=hid R;rcases hv.o with⟨rfl,c⟩|⟨j,⟨E,ai⟩,rfl,D⟩;have C:r=[]:=apK.1 c;replace c:=hid c;refine wk ?_;refine VC (xs:=[]) asp (by simp[Lib.join]) ?_;refine asw ?_;rw[show aD all++[AV.str (Lib.join [] [43])]=aD (all++[Lib.join [] [43]])by simp];exact ast aso (CutL (b:=by have:=S.o;have h0:=(aoZ.1 m).1;simp at h0⊢;omega)) ⟨i+1,all++[Lib.join [] [43]],_,rfl,w,hid (by rw[p.o,C];rfl),R.o,rfl,rfl⟩;rw[apg]at D;by_cases C:r=[];rw[C]at E;cases E;refine wk ?_;refine adC (xs:=r.map (avT false)) asp (by simpa using C) (by simp;omega) G (by simpa using D) ?_;refine asw ?_;rw[show aD all++[AV.str (Lib.join (r.map (avT false)) [43])]=aD (all++[Lib.join (r.map (avT false)) [43]])by simp];exact ast aso (CutL (b:=by have h0:=(aoZ.1 m).1;simp at h0⊢;omega)) ⟨i+1,all++[Lib.join (r.map (avT false)) [43]],_,rfl,w,hid p.o.symm,R.o,rfl,rfl⟩
 have F:i=d.length:=aso;subst F;have g1:¬(d.length:Int)<(d.length:Int):=aso;have e:=x.o;rw[apg]at e;have T:=h.o;simp only[bj]at T N;replace T:=hid T;clear x;subst e;refine wk ?_;refine agd asp (by simp;omega) N ?_;refine asw ?_;exact ac rfl T.o
theorem aeJ(s:List UInt8):(cN s).length<=s.length:=by have:=rN s s.length;rwa[apg]at this
theorem Eb(s:List UInt8):(b9 s).length<=s.length:=by
 have b:=aeJ (aj s);have a:(aj s).length=s.length:=by simp[aj]
 unfold b9 d8;split;simp only[List.length_dropLast];omega;omega
theorem ait{xs:List (List UInt8)}{i n:Nat}{cp:Option Nat}(c:n=xs.length)(a:xs≠[])(b:xs.length<=1100000)(d:L[i]?=some (.cells (aD xs)))(h:K (.tup []) (L.set i (.cells (aD (fE xs))))):
  aoX 132 [.lsl i 0 n cp 1] L K:=by
 subst c;exact akR (rest:=[]) a b (by simpa using d) (by simpa using h)
theorem aaW(xs:List (List UInt8)):(fE xs).length=xs.length:=by simp[fE]
theorem afP{d:List Rdn}{cap:Option Nat}(hn:d.length<=1000)(hr:∀r∈d,r.length<=1000/\∀a∈r,a.1.length<=10000/\a.2.length<=10000)(R:∀r∈d,(dx true r).length<=140737488355328)(ad:(bj true d).length<=140737488355328)(h:K (.str (bj true d)) L):
  aoX 85 [.sl (d.map am) d.length cap,.bool true] L K:=by
 replace h:=hid h;have a2:=hid (λk=>@mY d k);replace hr:=hid hr;replace R:=hid R;have Y:∀(W:List Blk) (j:Nat) (A:Blk),L.length<=j->(L++W).set j A=L++W.set (j-L.length) A:=λW j A D=>apu _ _ D
 replace Y:=hid Y;refine aoW VW ?_;refine bR (l:=[]) (n:=0) 5 1 rfl (aps 1).symm ?_;refine ak (λn T' L'=>∃(i:Nat) (all:List (List UInt8)) (Z:List Blk),n=d.length-i/\i<=d.length/\Hid (all=(d.take i).map (dx true))/\L'[L.length]?=some (.spare i 1)/\T'=[(13,.int .i64 (i:Int)),(12,.int .i64 d.length),(11,.sl (d.map am) d.length cap),(5,.gsl (aD all) i L.length 1),(1,.bool true)]/\L'=L++Z) ass ⟨0,[],[.spare 0 1],rfl,ao2 _,hid rfl,asp,rfl,rfl⟩ ?_;rintro _ _ _ ⟨i,all,X,rfl,hi,E,ho,rfl,rfl⟩;by_cases B:i<d.length
 .have g1:(i:Int)<(d.length:Int):=aso;have g2:=aoV i aso;have e2:=a2.o i B;have U:d.getD i []∈d:=(by rw[apo,ao8 B];exact apZ _);have ai:=hr.o _ U;have I:=R.o _ U;obtain⟨r,T⟩:=aoT (d.getD i []);have S:d.take (i+1)=d.take i++[r]:=(by rw[aph B,<- T];simp[B]);rw[T]at e2 ai I;clear T U;obtain⟨a4,G⟩:=ai;replace G:=hid G;replace S:=hid S;have hX:=(aoZ.1 ho).1;rw[apd]at hX;replace hX:=hid hX;refine wk ?_;refine ak (λn T' L'=>∃(k:Nat) (v:AV) (Z:List Blk),n=r.length-k/\k<=r.length/\X.length<=Z.length/\L'[L.length]?=some (.spare i 1)/\Hid ((v=.sl [] 0 (some 0)/\k=0)\/∃j,(0<k/\L.length<j)/\v=.lsl j 0 k none 1/\L'[j]?=some (.cells (aD ((r.take k).map (avT true)))))/\T'=[(19,.int .i64 (k:Int)),(18,.int .i64 r.length),(17,am r),(8,v),(13,.int .i64 (i:Int)),(12,.int .i64 d.length),(11,.sl (d.map am) d.length cap),(5,.gsl (aD all) i L.length 1),(1,.bool true)]/\L'=L++Z) ass ⟨0,_,X,rfl,ao2 _,ao0 _,ho,hid (.inl ⟨rfl,rfl⟩),rfl,rfl⟩ ?_;rintro _ _ _ ⟨k,v,Z,rfl,hk,y,s,hv,rfl,rfl⟩;replace y:=hid y;by_cases z:k<r.length
  .have g3:(k:Int)<(r.length:Int):=aso;have g4:=aoV k aso;have e3:=gS z;have e4:k*2+2<=(bd r).length:=(by rw[dm];omega);obtain⟨⟨ty,C⟩,ha⟩:∃a,r.getD k ([],[])=a:=⟨_,rfl⟩;have an:(ty,C)∈r:=(by rw[<- ha];simp[z]);have x:(r.take (k+1)).map (avT true)=(r.take k).map (avT true)++[aj ty++61::gU (b9 C)]:=by rw[aph z];have:r[k]=(ty,C):=(by rw[<- ha];simp[z]);rw[this];simp[avT]
   rw[ha]at e3;simp only[pu]at e3;have al:=G.o _ an;simp only at al;have av:=Eb C;have m:(b9 C).length<=100000:=aso;have p:(C.length:Int)<=100000:=aso;have f:(ty.length:Int)<=100000:=aso;have ar:=SP (b9 C).length (b9 C) 0;have a3:(aj ty).length=ty.length:=(by simp[aj]);have b1:((aj ty).length:Int)+1<=9223372036854775807:=aso;have b2:((aj ty).length:Int)+1+((gU (b9 C)).length:Int)<=9223372036854775807:=(by unfold gU;omega);clear ar ha an al a3 av;replace x:=hid x;have q1:(k+1)*16<=140737488355328:=aso;have q2:k+1<=140737488355328:=aso;have q3:k<=140737488355327:=aso;rcases hv.o with⟨rfl,g⟩|⟨j,⟨O,a0⟩,rfl,D⟩;replace g:=hid g;have kk1:=@asv _ _ _ _ (NC f);have kk2:=@asv _ _ _ _ (EF p);have kk3:=@asv _ _ _ _ (iI m);refine wk ?_;refine ast aso (CutL (b:=?_)) ⟨k+1,.lsl (L.length+(Z.length+1)) 0 1 none 1,_,rfl,z,?_,?_,hid (.inr ⟨L.length+(Z.length+1),⟨aso,aso⟩,by rw[g.o],?_⟩),rfl,rfl⟩;have:=y.o;simp;omega;have:=y.o;simp;omega;rw[<- apc,ao4 (aoZ.1 s).1];exact s;rw[nu,nu,x.o,g.o];rfl
   .obtain⟨cur,q⟩:=aoT ((r.take k).map (avT true));have F:cur.length=k:=(by rw[<- q];simp;omega);rw[q]at D;have N:(L++(Z++[Blk.cells [.str (aj ty),.str (b9 C)]]))[j]?=some (.cells (aD cur)):=by rw[<- apc,ao4 (aoZ.1 D).1];exact D
    have M:(L++(Z++[Blk.cells [.str (aj ty),.str (b9 C)]])).set j .dead=L++(Z++[Blk.cells [.str (aj ty),.str (b9 C)]]).set (j-L.length) .dead:=Y.o _ _ _ aso;have f3:k<=(aD cur).length:=(by simp[F]);have f4:(aD cur).take k=aD cur:=apA (by simp[F]);replace q:=hid q;replace F:=hid F;have a1:=hid (show j≠L.length by omega);have ap:=hid M
    repeat' first
     |refine bH ?_
     | (first|refine bv asq ?_|refine aP asq ?_|refine aS ?_|refine cT ?_|refine bJ (fun _=>?_)|refine aH ?_|refine bz ?_|refine NC f ?_|refine EF p ?_|refine iI m ?_|refine bg (NC f ⟨rfl,rfl⟩) (NC f ⟨rfl,rfl⟩) ?_|refine bg (EF p ⟨rfl,rfl⟩) (EF p ⟨rfl,rfl⟩) ?_|refine bg (iI m ⟨rfl,rfl⟩) (iI m ⟨rfl,rfl⟩) ?_|refine aM (NC f ⟨rfl,rfl⟩) ?_|refine aM (EF p ⟨rfl,rfl⟩) ?_|refine aM (iI m ⟨rfl,rfl⟩) ?_)
       refine sm ?_
     | (first|refine bp asq ?_|refine bm ?_|refine aR ?_|refine bw ?_|refine bP (aG ?_))
       refine sl ?_
     |exact bL
     |first|apply bM|apply bq|apply bN|apply br|apply bO|apply bu
     |refine aV ?_
     |refine aQ ?_
     |first|refine aT rfl ?_|refine aU rfl ?_|refine aB rfl ?_ ?_|refine aX rfl (λ_=>?_) (λ_=>?_)|refine aW rfl (λ_=>?_) (λ_=>?_)
     |((first|refine aA (λ_=>?_) (λ_=>?_)|refine aE (λ_=>?_) (λ_=>?_))<;>try refine sm ?_)
     |refine And.intro trivial ?_
     |refine And.intro aso ?_
     |refine be rfl (λ_=>?_) (λ_=>?_)
     |refine And.intro ?_ ?_
    rw[F.o];exact ao0 _;have hA:((Z++[Blk.cells [.str (aj ty),.str (b9 C)]]).set (j-L.length) .dead).length=Z.length+1:=asp;refine ast aso (CutL (b:=?_)) ⟨k+1,.lsl (L.length+(Z.length+1)) 0 (k+1) none 1,_,rfl,z,?_,?_,hid (.inr ⟨L.length+(Z.length+1),⟨aso,aso⟩,rfl,?_⟩),rfl,rfl⟩;have:=y.o;simp;omega;have:=y.o;simp;omega;rw[<- apc,<- ap.o,ao4 asp,api a1.o,<- apc,ao4 (aoZ.1 s).1];exact s;rw[nu,<- hA,Yv,x.o,q.o];simp
  have Q:k=r.length:=aso;subst Q;have g3:¬(r.length:Int)<(r.length:Int):=aso;have q4:(i+1)*16<=140737488355328:=aso;have q5:i+1<=140737488355328:=aso;have u:dx true r=Lib.join (fE (r.map (avT true))) [43]:=(by simp[dx]);rw[u]at I;have c:(d.take (i+1)).map (dx true)=all++[Lib.join (fE (r.map (avT true))) [43]]:=by rw[S.o,apz,<- E.o,<- u];rfl
  replace u:=hid u;replace c:=hid c;rcases hv.o with⟨rfl,g⟩|⟨j,⟨O,a0⟩,rfl,D⟩;have V:r=[]:=apK.1 g;have f0:(L++Z).set L.length (.spare (i+1) 1)=L++Z.set 0 (.spare (i+1) 1):=(by rw[Y.o _ _ _ (ao0 _),aqq]);have N:(L++Z.set 0 (.spare (i+1) 1))[L.length]?=some (.spare (i+1) 1):=by rw[<- f0,apB,if_pos rfl,if_pos (aoZ.1 s).1]
  replace N:=hid N;replace g:=hid g;refine wk ?_;refine aiu ?_;refine asw ?_;refine VC (xs:=[]) asp (by simp[Lib.join]) ?_;refine asw ?_;rw[show aD all++[AV.str (Lib.join [] [43])]=aD (all++[Lib.join [] [43]])by simp];exact ast aso (CutL (b:=by have:=hX.o;have h0:=(aoZ.1 s).1;simp at h0⊢;omega)) ⟨i+1,all++[Lib.join [] [43]],_,rfl,B,hid (by rw[c.o,V];simp[fE]),N.o,rfl,rfl⟩;rw[apg]at D;have V:r≠[]:=λe=>by rw[e]at O;cases O
  obtain⟨xs,J⟩:=aoT (r.map (avT true));have t:r.length=xs.length:=(by rw[<- J];simp);have w:xs≠[]:=λe=>V (by have:=t;rw[e]at this;exact apK.1 this)
  rw[J]at D I c;have H:=aaW xs;have a5:L.length+(j-L.length)=j:=aso;have M:(L++Z).set j (.cells (aD (fE xs)))=L++Z.set (j-L.length) (.cells (aD (fE xs))):=Y.o _ _ _ aso;have f3:(L++Z.set (j-L.length) (.cells (aD (fE xs))))[j]?=some (.cells (aD (fE xs))):=by rw[<- M,apB,if_pos rfl,if_pos (aoZ.1 D).1]
  have P:(L++Z.set (j-L.length) (.cells (aD (fE xs))))[L.length]?=some (.spare i 1):=by rw[<- M,api aso];exact s
  clear s;replace D:=hid D;generalize hZ1:Z.set (j-L.length) (.cells (aD (fE xs)))=Z1 at M f3 P;have f0:(L++Z1).set L.length (.spare (i+1) 1)=L++Z1.set 0 (.spare (i+1) 1):=(by rw[Y.o _ _ _ (ao0 _),aqq]);have N:(L++Z1.set 0 (.spare (i+1) 1))[L.length]?=some (.spare (i+1) 1):=by rw[<- f0,apB,if_pos rfl,if_pos (aoZ.1 P).1]
  replace N:=hid N;replace M:=hid M;replace f3:=hid f3;replace J:=hid J;replace t:=hid t;replace H:=hid H;clear hZ1;replace w:=hid w;refine wk ?_;refine ait t.o w.o (by have:=t.o;omega) D.o ?_;rw[M.o];refine asw ?_;refine adC (xs:=fE xs) (by rw[H.o];exact t.o) (λe=>w.o (by have:=H.o;rw[e]at this;exact apK.1 this.symm)) (by have:=t.o;rw[H.o];omega) I f3.o ?_;refine asw ?_;rw[show aD all++[AV.str (Lib.join (fE xs) [43])]=aD (all++[Lib.join (fE xs) [43]])by simp];exact ast aso (CutL (b:=by have h0:=(aoZ.1 P).1;simp at h0⊢;omega)) ⟨i+1,all++[Lib.join (fE xs) [43]],_,rfl,B,hid c.o.symm,N.o,rfl,rfl⟩
 have Q:i=d.length:=aso;subst Q;have g1:¬(d.length:Int)<(d.length:Int):=aso;have e:=E.o;rw[apg]at e;have h':=h.o;simp only[bj]at h' ad;replace h':=hid h';clear E;subst e;refine wk ?_;refine agd asp (by simp;omega) ad ?_;refine asw ?_;exact ac rfl h'.o
def Ny(r:Rdn):Bool:=r.any λa=>decide (4096<a.2.length)
def JD(d:List Rdn):Bool:=d.any Ny
theorem aby:∀(t done:Rdn),dW done t=0->done.length<=8->(done++t).length<=8/\∀a∈t,a.1.length<=32
 |[],done,_,h=>by simp;exact h
 | a::t,done,h,hd=>by
   simp only[dW]at h;split at h
   .cases h
   .split at h
    .cases h
    .split at h
     .cases h
     .rename_i h1 h2 h3;have:=aby t (done++[a]) h (by simp;omega);refine⟨by simpa using this.1,λb c=>?_⟩;rcases apn.1 c with rfl|c
      .exact wU (by simpa using h2)
      .exact this.2 b c
theorem Yz:∀(d:List Rdn) (i:Nat),jJ i d=0->i<=32->i+d.length<=32/\∀r∈d,r.length<=8/\∀a∈r,a.1.length<=32
 |[],i,_,h=>by simp;exact h
 | r::d,i,h,hi=>by
   simp only[jJ]at h;split at h
   .cases h
   .split at h
    .cases h
    .split at h
     .rename_i h3;exact absurd h h3
     .rename_i h1 h2 h3;have c:dW [] r=0:=(by simpa using h3);have e:=aby r [] c asp;have a2:=Yz d (i+1) h aso;refine⟨by simp;omega,λq b=>?_⟩;rcases apn.1 b with rfl|b
      .exact⟨by simpa using e.1,e.2⟩
      .exact a2.2 q b
theorem N5(s:List UInt8):(gU s).length<=3*s.length:=SP _ _ _
theorem al2{key:Bool}{a:Ava}(g:a.1.length<=32)(f:a.2.length<=4096):(avT key a).length<=20000:=by
 have b:=N5 a.2;have e:=N5 (b9 a.2);have c:=Eb a.2;have d:(aj a.1).length=a.1.length:=by simp[aj]
 unfold avT;split;simp;omega;simp;omega
theorem Zr{B:Nat}{sep:List UInt8}:∀xs:List (List UInt8),(∀x∈xs,x.length<=B)->(Lib.join xs sep).length<=xs.length*(B+sep.length)
 |[],_=>by simp[Lib.join]
 |[x],h=>by have:=h x asp;simp[Lib.join,List.intercalate];omega
 | x::y::l,h=>by
   have a:=Zr (sep:=sep) (y::l) λz b=>h z (aqu _ b)
   have c:=h x asp;have e:Lib.join (x::y::l) sep=x++(sep++Lib.join (y::l) sep):=(by simp[Lib.join,List.intercalate]);rw[e];simp only[apd,apb,ard]at a⊢;omega
theorem S9{key:Bool}{r:Rdn}(h:r.length<=8)(k:∀a∈r,a.1.length<=32)(j:∀a∈r,a.2.length<=4096):(dx key r).length<=200000:=by
 have e:∀xs:List (List UInt8),xs.length<=8->(∀x∈xs,x.length<=20000)->(Lib.join xs [43]).length<=200000:=λxs a b=>by have c:=Zr (sep:=[43]) xs b;have d:xs.length*(20000+[(43:UInt8)].length)<=8*(20000+1):=ap6 _ a;omega
 have i:∀x∈r.map (avT key),x.length<=20000:=λx f=>by obtain⟨a,g,rfl⟩:=ao6.1 f;exact al2 (k a g) (j a g)
 unfold dx;split;refine e _ (by rw[aaW];simpa using h) λx f=>i x ?_
 exact(aqG (r.map (avT key)) _).mem_iff.1 f;exact e _ (by simpa using h) i
theorem SZ{key:Bool}{d:List Rdn}(f:d.length<=32)(g:∀r∈d,(dx key r).length<=200000):(bj key d).length<=10000000:=by
 have c:=Zr (sep:=[44]) (B:=200000) (d.map (dx key)) λx b=>by obtain⟨r,a,rfl⟩:=ao6.1 b;exact g r a
 have e:(d.map (dx key)).length*(200000+[(44:UInt8)].length)<=32*(200000+1):=ap6 _ (by simpa using f);unfold bj;omega
def prS(d:List Rdn):List UInt8×Int:=if jJ 0 d≠0 then([],jJ 0 d)else if JD d=true then([],5)else if 4096<(bj false d).length then([],5)else(bj false d,0)
def kB(p:List UInt8×Int):AV:=.tup [.str p.1,.int .i64 p.2]
def Sa(d:List Rdn):List UInt8×Int:=if(prS d).2≠0 then([],(prS d).2)else(bj true d,0)
def adA(s:List UInt8):List UInt8×Int:=if(dV s).2≠0 then([],(dV s).2)else Sa (dV s).1
theorem lI{d:List Rdn}{cap:Option Nat}(O:d.length<=1100000)(g:∀r∈d,r.length<=1100000)(h:K (kB (prS d)) L):
  aoX 36 [.sl (d.map am) d.length cap] L K:=by
 have M:=hid (λk=>@mY d k);unfold prS kB at h;refine aoW aaI ?_;refine alQ O g ?_;by_cases E:jJ 0 d=0;rotate_left;rw[if_pos E]at h;replace h:=hid h;refine asw ?_;exact aa h.o;rw[if_neg (by simpa using E)]at h;obtain⟨Q,f⟩:=Yz d 0 E aso;rw[E];replace f:=hid f;replace h:=hid h;clear g O E;refine asw ?_;refine ak (λn T' L'=>∃(i:Nat) (c:Int) (Z:List Blk),n=d.length-i/\i<=d.length/\Hid (JD (d.take i)=false/\0<=c/\c<=8*i)/\T'=[(18,.int .i64 (i:Int)),(17,.int .i64 d.length),(16,.sl (d.map am) d.length cap),(5,.int .i64 c),(0,.sl (d.map am) d.length cap)]/\L'=L++Z) ass ⟨0,0,[],rfl,ao2 _,hid ⟨rfl,aso,aso⟩,rfl,asp⟩ ?_;rintro _ _ _ ⟨i,c,X,rfl,hi,H,rfl,rfl⟩;by_cases j:i<d.length;have g1:(i:Int)<(d.length:Int):=aso;have g2:=aoV i aso;have V:=M.o i j;have y:d.getD i []∈d:=by rw[apo,ao8 j];exact apZ _
 obtain⟨r,B⟩:=aoT (d.getD i []);have z:d.take (i+1)=d.take i++[r]:=by rw[aph j,<- B];simp[j]
 rw[B]at V y;have S:=(f.o r y).1;have A:Ny r=true->K (.tup [.str [],.int .i64 5]) L:=λe=>by have q:=h.o;rw[if_pos (show JD d=true from aqz.2 ⟨r,y,e⟩)]at q;exact q
 replace A:=hid A;replace z:=hid z;clear B y;refine wk ?_;refine ak (λn T' L'=>∃(k:Nat) (c':Int) (Z:List Blk),n=r.length-k/\k<=r.length/\X.length<=Z.length/\Hid (Ny (r.take k)=false/\c'=c+k)/\T'=[(24,.int .i64 (k:Int)),(23,.int .i64 r.length),(22,am r),(18,.int .i64 (i:Int)),(17,.int .i64 d.length),(16,.sl (d.map am) d.length cap),(5,.int .i64 c'),(0,.sl (d.map am) d.length cap)]/\L'=L++Z) ass ⟨0,c,X,rfl,ao2 _,ao0 _,hid ⟨rfl,aso⟩,rfl,rfl⟩ ?_;rintro _ _ _ ⟨k,c',Z,rfl,Y,s,D,rfl,rfl⟩;replace s:=hid s;by_cases l:k<r.length;have g3:(k:Int)<(r.length:Int):=aso;have g4:=aoV k aso;have g5:IntKind.i64.wrap (c'+1)=c'+1:=by obtain⟨_,P,z2⟩:=H.o;have:=D.o.2;exact ae aso aso
 have N:=gS l;have e4:k*2+2<=(bd r).length:=by rw[dm];omega
 obtain⟨⟨ty,J⟩,w⟩:∃a,r.getD k ([],[])=a:=⟨_,rfl⟩;have F:(ty,J)∈r:=by rw[<- w];simp[l]
 have p:r.take (k+1)=r.take k++[(ty,J)]:=by rw[aph l,<- w];simp[l]
 rw[w]at N;simp only[pu]at N;have WL:4096<J.length->Ny r=true:=λe=>aqz.2 ⟨_,F,by simpa using e⟩
 replace WL:=hid WL;replace p:=hid p;clear w F;by_cases R:(4096:Int)<(J.length:Int);have q:=hid (A.o (WL.o aso));refine wk ?_;exact ac rfl q.o;refine wk ?_;refine ast aso (CutL (b:=?_)) ⟨k+1,c'+1,_,rfl,l,?_,hid ⟨?_,by have:=D.o.2;omega⟩,rfl,rfl⟩;have:=s.o;simp;omega;have:=s.o;simp;omega;rw[p.o,Ny,arB,show(r.take k).any _=Ny (r.take k)from rfl,D.o.1];simp;omega;have C:k=r.length:=aso;subst C;have g3:¬(r.length:Int)<(r.length:Int):=aso;have u:=D.o.1;rw[apg]at u;replace u:=hid u;refine wk ?_;refine ast aso asr ⟨i+1,c',_,rfl,j,hid ⟨?_,?_,?_⟩,rfl,rfl⟩;rw[z.o,JD,arB,show(d.take i).any _=JD (d.take i)from rfl,H.o.1];simp[u.o];obtain⟨_,P,z2⟩:=H.o;have:=D.o.2;omega;obtain⟨_,P,z2⟩:=H.o;have:=D.o.2;omega;have C:i=d.length:=aso;subst C;have g1:¬(d.length:Int)<(d.length:Int):=aso;have x:=H.o.1;rw[apg]at x;have q:=h.o;rw[if_neg (by rw[x];simp)]at q;have I:∀r∈d,∀a∈r,a.2.length<=4096:=λr g a w=>by have W:=aqA.1 x r g;have G:Ny r=false:=(by simpa using W);unfold Ny at G;have m:=aqA.1 G a w;simpa using m
 have t:∀r∈d,(dx false r).length<=200000:=λr g=>S9 (f.o r g).1 (f.o r g).2 (I r g)
 have U:=SZ aso t;replace q:=hid q;clear x;replace I:=hid I;replace t:=hid t;refine wk ?_;refine akO aso (λr g=>⟨by have:=(f.o r g).1;omega,λa w=>⟨by have:=(f.o r g).2 a w;omega,by have:=I.o r g a w;omega⟩⟩) (λr g=>by have:=t.o r g;omega) aso ?_;by_cases v:4096<(bj false d).length;have T:(4096:Int)<((bj false d).length:Int):=aso;have m:=q.o;rw[if_pos v]at m;replace m:=hid m;clear v;refine asw ?_;exact ac rfl m.o;have T:¬(4096:Int)<((bj false d).length:Int):=aso;have m:=q.o;rw[if_neg v]at m;replace m:=hid m;clear v;refine asw ?_;exact ac rfl m.o
theorem Y4{d:List Rdn}(h:(prS d).2=0):d.length<=32/\∀r∈d,r.length<=8/\∀a∈r,a.1.length<=32/\a.2.length<=4096:=by
 unfold prS at h;split at h;rename_i e;exact absurd h e;rename_i e;split at h;cases h;rename_i j;have k:jJ 0 d=0:=by simpa using e
 obtain⟨n,i⟩:=Yz d 0 k aso;have f:JD d=false:=by simpa using j
 refine⟨aso,λr c=>⟨(i r c).1,λa g=>⟨(i r c).2 a g,?_⟩⟩⟩;have m:=aqA.1 f r c;have b:Ny r=false:=by simpa using m
 unfold Ny at b;have l:=aqA.1 b a g;simpa using l
theorem Sb{d:List Rdn}{cap:Option Nat}(k:d.length<=1100000)(b:∀r∈d,r.length<=1100000)(h:K (kB (Sa d)) L):
  aoX 58 [.sl (d.map am) d.length cap] L K:=by
 unfold Sa kB at h;refine aoW acw ?_;refine lI k b ?_;unfold kB;obtain⟨⟨ps,j⟩,g⟩:∃p,prS d=p:=⟨_,rfl⟩;rw[g]at h⊢;simp only at h⊢;by_cases i:j=0;subst i;obtain⟨m,e⟩:=Y4 (by rw[g]);rw[if_neg asp]at h;have c:∀r∈d,(dx true r).length<=200000:=λr b=>S9 (e r b).1 (λa f=>((e r b).2 a f).1) (λa f=>((e r b).2 a f).2)
 have l:=SZ aso c;replace h:=hid h;replace e:=hid e;replace c:=hid c;clear g b;refine asw ?_;refine afP aso (λr b=>⟨by have:=(e.o r b).1;omega,λa f=>⟨by have:=((e.o r b).2 a f).1;omega,by have:=((e.o r b).2 a f).2;omega⟩⟩) (λr b=>by have:=c.o r b;omega) aso ?_;refine asw ?_;exact aa h.o;rw[if_pos i]at h;replace h:=hid h;clear g b;refine asw ?_;exact aa h.o
theorem abU:∀(f:Nat) (out:List Rdn) (a:Rdn) (s:List UInt8),out.length<=32->a.length<=8->(∀r∈out,r.length<=8)->(tU f out a s).1.length<=33/\∀r∈(tU f out a s).1,r.length<=8
 |0,_,_,_,_,_,_=>by simp[tU]
 | f+1,out,a,s,h1,h2,h3=>by
   rw[tU];split
   .simp
   rename_i d;have c:∀t v:List UInt8,(a++[(t,v)]).length<=8:=λt v=>by simp;omega
   have b:∀t v:List UInt8,∀r∈out++[a++[(t,v)]],r.length<=8:=λt v r e=>by
    rcases ao5.1 e with h|h
    .exact h3 r h
    .rw[apr.1 h];exact c t v
   split
   .simp
   split
   .simp
   split
   .simp
   split
   .simp
   split
   .simp
   split
   .exact⟨by simp;omega,b _ _⟩
   split
   .exact abU f _ _ _ (by simp;omega) asp (b _ _)
   .exact abU f _ _ _ h1 (c _ _) h3
theorem Oe(s:List UInt8):(dV s).1.length<=33/\∀r∈(dV s).1,r.length<=8:=by unfold dV;split;simp;split;simp;exact abU _ _ _ _ asp asp asp
theorem amn{s:List UInt8}(h:K (kB (adA s)) L):aoX 109 [.str s] L K:=by unfold adA at h;refine aoW ad7 ?_;refine abT ?_;obtain⟨c,a⟩:=Oe s;obtain⟨⟨i,g⟩,d⟩:∃p,dV s=p:=⟨_,rfl⟩;rw[d]at h c a⊢;simp only[aaw]at h c a⊢;clear d;by_cases e:g=0;subst e;rw[if_neg asp]at h;replace h:=hid h;replace a:=hid a;refine asw ?_;refine Sb aso (λr f=>by have:=a.o r f;omega) ?_;have b:=h.o;unfold kB at b⊢;replace b:=hid b;refine asw ?_;exact aa b.o;rw[if_pos e]at h;unfold kB at h;replace h:=hid h;clear c a;refine asw ?_;exact aa h.o
end Go.Proofs.YtdnfjhflkkpokaaGreatDoor.Av
set_option maxRecDepth 100000
namespace Go.Proofs.YtdnfjhflkkpokaaGreatDoor.Av
open Go
def uV:LSO:=[Ay 1 0,Af 2]
def uU:LSO:=[Ab 10 1 1,Ax 11 10,AB 12 11 15,Aa 13 12,.grp none 13 false
 [A6 14 13 1 1,Cc 15 13 14 14,og 16 13 false (.bin .neq (tm 15) (.av (.int .u8 90)))]
 17 (tm 16)]
def uT:LSO:=[Af 2]
def uS:LSO:=[Ab 18 1 1,o1 19 (.slS (tm 18) none (some (iv 14))),o1 20 (.s2b (tm 19)),Ah 21 20,Ac 22 0]
def uR:LSO:=[Al 23 22 21]
def uQ:LSO:=[Am 24 1 20 22,Ab 25 1 24,Aa 4 25]
def uP:LSO:=[Aa 26 4,o1 27 (.bin .lss (tm 26) (.av (.int .u8 48))),Aa 28 27,.grp none 28 false
 [Ag 29 28 4,og 30 28 false (.bin .gtr (tm 29) (.av (.int .u8 57)))]
 31 (tm 30)]
def uO:LSO:=[Af 2]
def uN:LSO:=[Ai 32 22 1,Aa 22 32]
def uM:LSO:=[o1 33 (.mkfn 164 [(tm 1)]),Aa 5 33]
def sS:LSO:=[Aa 34 5,BL 35 34 0,o1 36 (.bin .mul (tm 35) (iv 100)),Aa 37 5,BL 38 37 2,AU 39 36 38,Aa 40 5,BL 41 40 4,Aa 42 5,BL 43 42 6,Aa 6 39,Aa 7 41,Aa 8 43]
def sR:LSO:=[Aa 44 7,AJ 45 44 1,Aa 46 45,.grp none 46 false
 [Ag 47 46 7,AC 48 46 47 12]
 49 (tm 48),Aa 50 49,.grp none 50 false
 [Ag 51 50 8,Bp 52 50 51 1]
 53 (tm 52),Aa 54 53,.grp none 54 false
 [Ag 55 54 5,Cd 56 54 55 8,AC 57 54 56 23]
 58 (tm 57),Aa 59 58,.grp none 59 false
 [Ag 60 59 5,Cd 61 59 60 10,AC 62 59 61 59]
 63 (tm 62),Aa 64 63,.grp none 64 false
 [Ag 65 64 5,Cd 66 64 65 12,AC 67 64 66 59]
 68 (tm 67)]
def sQ:LSO:=[Af 2]
def sP:LSO:=[Aa 69 7,Ba 70 69 1,o1 71 (.iaddrA 12 1 (.av (.gptr 2 0)) (tm 70)),Ab 72 1 71,Aa 9 72]
def sO:LSO:=[Aa 73 7,An 74 73 2,Aa 75 74,.grp none 75 true
 [Ae 76 75 6,BM 77 75 76 4,AO 78 75 77 0,Ae 79 75 78,.grp (some (75,true)) 79 true
 [Ae 80 79 6,BM 81 79 80 100,Bq 82 79 81 0]
 83 (tm 82),Ae 84 75 83,.grp (some (75,true)) 84 false
 [Ag 85 84 6,og 86 84 false (.bin .rem (tm 85) (iv 400)),AI 87 84 86 0]
 88 (tm 87)]
 89 (tm 88)]
def sN:LSO:=[Aa 90 9,Ai 91 90 1,Aa 9 91]
def sM:LSO:=[Aa 92 8,Aa 93 9,o1 94 (.bin .leq (tm 92) (tm 93)),Aa 2 94]
def pl:aK:=⟨95,(ash uV [] (.seq (ash uU CA (asj 17 (.sreg uT []))) (.seq (ash uS CV (ask 0 (ash uR [] (.seq (asl 23 0) (.seq (.block 1 (ash uQ C6 (ash uP C7 (asj 31 (.sreg uO []))))) (.sreg uN C4)))))) (ash uM C4 (ash sS [true,true,true,false,false,false,false,false,false,false,false,false,false] (.seq (ash sR CK (asj 68 (.sreg sQ []))) (ash sP CA (.seq (ash sO C7 (asi 89 (.sreg sN C6) .skip)) (ash sM C7 .ret))))))))),[(.tmp 2)]⟩
attribute [push_cast] uV uU uT uS uR uQ uP uO uN uM sS sR sQ sP sO sN sM
theorem Sr:asm 110=asn pl:=asq
def qu:LSO:=[Ac 3 0]
def qt:LSO:=[Ab 4 1 1,Aa 5 0,AK 6 4 5,BN 7 6,By 8 7,o1 9 (.bin .mul (tm 8) (iv 10)),Ab 10 1 1,Aa 11 0,Ai 12 11 1,AK 13 10 12,BN 14 13,By 15 14,AU 16 9 15,
 Aa 3 16]
def lP:aK:=⟨17,(ash qu [] (.seq (.sdreg qt [(.read 0 0),.pure,(.read 0 0),.pure,.pure,.pure,(.read 0 0),.pure,.pure,(.read 0 0),.pure,.pure] Dj) .ret)),[(.tmp 3)]⟩
attribute [push_cast] qu qt
theorem NN:asm 164=asn lP:=asq
def uL:LSO:=[Ac 2 0,Af 3]
def uK:LSO:=[Aa 7 0,o1 8 (.call 162 [(tm 7),(iv 10),(iv 64)]),Aa 6 8,Ao 9 6,Aq 10 6,Aa 4 9,Aa 5 10]
def uJ:LSO:=[Aa 11 4,Aa 12 5,o1 13 (.eqk false .iface (tm 12) (.av .nilif)),Aa 14 13,.grp none 14 true
 [Ae 15 14 4,og 16 14 true (.call 163 [(tm 15),(iv 10)]),Ae 17 14 0,B7 18 14 16 17]
 19 (tm 18),Aa 2 11,Aa 3 19]
def pk:aK:=⟨20,(ash uL [] (ash uK CH (ash uJ CH .ret))),[(.tmp 2),(.tmp 3)]⟩
attribute [push_cast] uL uK uJ
theorem Sq:asm 108=asn pk:=asq
def uX:LSO:=[Af 2]
def uW:LSO:=[Aa 3 0,o1 4 (.bin .geq (tm 3) (.av (.int .i32 128))),Aa 2 4]
def pm:aK:=⟨5,(ash uX [] (ash uW C6 .ret)),[(.tmp 2)]⟩
attribute [push_cast] uX uW
theorem Ss:asm 107=asn pm:=asq
def mr:LSO:=[Ac 4 0]
def mq:LSO:=[Aa 5 0,Aa 6 1,o1 7 (.call 161 [(tm 5),(tm 6),(.av (.bool true))]),Aa 4 7]
def jm:aK:=⟨8,(ash mr [] (ash mq C7 .ret)),[(.tmp 4)]⟩
attribute [push_cast] mr mq
theorem EY:asm 106=asn jm:=asq
def mo:LSO:=[Ac 6 0]
def mm:LSO:=[Aa 9 0,o1 10 (.rangeS (tm 9))]
def ml:LSO:=[o1 11 (.nextS (tm 10)),Ao 12 11]
def mj:LSO:=[Aq 13 11,Be 14 11,Aa 7 13,Aa 8 14]
def mh:LSO:=[Aa 15 1,Aa 16 8,B0 17 15 16,Aa 18 2,o1 19 (.eqk false .bool (tm 17) (tm 18))]
def mg:LSO:=[Aa 20 7,Aa 6 20]
def mf:LSO:=[Ac 6 (-1)]
def jl:aK:=⟨21,(ash mo [] (.seq (ash mm C4 (ask 0 (ash ml [] (.seq (asl 12 0) (.block 1 (ash mj CM (ash mh CA (asj 19 (.sreg mg C4))))))))) (ash mf [] .ret))),[(.tmp 6)]⟩
attribute [push_cast] mo mm ml mj mh mg mf
theorem EX:asm 161=asn jl:=asq
def Qq:LSO:=[Af 2]
def Qp:LSO:=[Aa 7 0,Ax 8 7,A7 9 8 0]
def Qo:LSO:=[Aa 10 0,BO 11 10 0,By 12 11,Aa 3 12]
def Qn:LSO:=[Ac 4 1]
def Qm:LSO:=[Aa 13 3,AL 14 13 240]
def Ql:LSO:=[Ac 4 4]
def Qk:LSO:=[Aa 15 3,Ba 16 15 240,Aa 3 16]
def Qj:LSO:=[Aa 17 3,AL 18 17 224]
def Qi:LSO:=[Ac 4 3]
def Qh:LSO:=[Aa 19 3,Ba 20 19 224,Aa 3 20]
def Lo:LSO:=[Aa 21 3,AL 22 21 192]
def Ln:LSO:=[Ac 4 2]
def Lm:LSO:=[Aa 23 3,Ba 24 23 192,Aa 3 24]
def Ll:LSO:=[Aa 25 3,AL 26 25 128]
def Lk:LSO:=[Af 2]
def Lj:LSO:=[Aa 27 0,Ax 28 27,Aa 29 4,Al 30 28 29]
def Li:LSO:=[Af 2]
def Lh:LSO:=[Ac 5 1]
def Lg:LSO:=[Aa 31 5,Aa 32 4,Al 33 31 32]
def Lf:LSO:=[Aa 36 0,Aa 37 5,AK 38 36 37,By 39 38,Aa 6 39]
def Le:LSO:=[Aa 40 6,AJ 41 40 128,Aa 42 41,.grp none 42 false
 [Ag 43 42 6,BP 44 42 43 192]
 45 (tm 44)]
def Ld:LSO:=[Af 2]
def Lc:LSO:=[Aa 46 3,o1 47 (.bin .mul (tm 46) (iv 64)),Aa 48 6,AU 49 47 48,Ba 50 49 128,Aa 3 50]
def La:LSO:=[Aa 34 5,Ai 35 34 1,Aa 5 35]
def K9:LSO:=[Aa 51 4,An 52 51 2,Aa 53 52,.grp none 53 true
 [Ae 54 53 3,B8 55 53 54 128]
 56 (tm 55),Aa 57 56,.grp none 57 false
 [Ag 58 57 4,AI 59 57 58 3,Ag 60 57 59,.grp (some (57,false)) 60 true
 [Ae 61 60 3,B8 62 60 61 2048]
 63 (tm 62)]
 64 (tm 63),Aa 65 64,.grp none 65 false
 [Ag 66 65 4,AI 67 65 66 4,Ag 68 65 67,.grp (some (65,false)) 68 true
 [Ae 69 68 3,B8 70 68 69 65536]
 71 (tm 70)]
 72 (tm 71),Aa 73 72,.grp none 73 false
 [Ag 74 73 3,AC 75 73 74 1114111]
 76 (tm 75),Aa 77 76,.grp none 77 false
 [Ag 78 77 3,BP 79 77 78 55296,Ag 80 77 79,.grp (some (77,false)) 80 true
 [Ae 81 80 3,B8 82 80 81 57344]
 83 (tm 82)]
 84 (tm 83)]
def K8:LSO:=[Af 2]
def K7:LSO:=[Aa 85 0,Aa 86 4,BQ 87 85 86,Aa 0 87]
def K6:LSO:=[A5 2]
def NS:aK:=⟨88,(ash Qq [] (.seq (ask 0 (.seq (ash Qp C6 (asl 9 0)) (.block 1 (ash Qo C7 (ash Qn [] (.seq (ash Qm C4 (asi 14 (ash Ql [] (.sreg Qk C6)) (ash Qj C4 (asi 18 (ash Qi [] (.sreg Qh C6)) (ash Lo C4 (asi 22 (ash Ln [] (.sreg Lm C6)) (ash Ll C4 (asj 26 (.sreg Lk []))))))))) (.seq (ash Lj C7 (asj 30 (.sreg Li []))) (.seq (ash Lh [] (ask 2 (.seq (ash Lg C6 (asl 33 2)) (.seq (.block 3 (ash Lf CA (.seq (ash Le C7 (asj 45 (.sreg Ld []))) (.sreg Lc CB)))) (.sreg La C6))))) (.seq (ash K9 CK (asj 84 (.sreg K8 []))) (.sreg K7 C7)))))))))) (ash K6 [] .ret))),[(.tmp 2)]⟩
attribute [push_cast] Qq Qp Qo Qn Qm Ql Qk Qj Qi Qh Lo Ln Lm Ll Lk Lj Li Lh Lg Lf Le Ld Lc La K9 K8 K7 K6
theorem ZZ:asm 138=asn NS:=asq
def yW:LSO:=[Af 2]
def yV:LSO:=[Ac 3 0]
def yU:LSO:=[Aa 4 3,Aa 5 0,Ax 6 5,Al 7 4 6]
def yT:LSO:=[Aa 10 0,Aa 11 3,AK 12 10 11,o1 13 (.bin .lss (tm 12) (.av (.int .u8 48))),Aa 14 13,.grp none 14 false
 [Ag 15 14 0,Ag 16 14 3,B1 17 14 15 16,og 18 14 false (.bin .gtr (tm 17) (.av (.int .u8 57)))]
 19 (tm 18)]
def yS:LSO:=[Af 2]
def yR:LSO:=[Aa 8 3,Ai 9 8 1,Aa 3 9]
def yQ:LSO:=[Aa 20 0,Ax 21 20,A7 22 21 0,Aa 2 22]
def tK:aK:=⟨23,(ash yW [] (.seq (ash yV [] (ask 0 (.seq (ash yU C7 (asl 7 0)) (.seq (.block 1 (ash yT CB (asj 19 (.sreg yS [])))) (.sreg yR C6))))) (ash yQ C7 .ret))),[(.tmp 2)]⟩
attribute [push_cast] yW yV yU yT yS yR yQ
theorem VT:asm 189=asn tK:=asq
def yF:LSO:=[Af 2]
def yE:LSO:=[Aa 4 0,o1 5 (.bin .eql (tm 4) (.av (.str [48])))]
def yD:LSO:=[A5 2]
def yC:LSO:=[o1 3 (.mv (.av (.str [57,50,50,51,51,55,50,48,51,54,56,53,52,55,55,53,56,48,55])))]
def yB:LSO:=[Aa 6 0,Ax 7 6,A7 8 7 0,Aa 9 8,.grp none 9 true
 [Ae 10 9 0,og 11 9 true (.idxS (tm 10) (iv 0)),og 12 9 true (.bin .eql (tm 11) (.av (.int .u8 45)))]
 13 (tm 12)]
def yA:LSO:=[Aa 14 0,o1 15 (.slS (tm 14) (some (iv 1)) none),Aa 0 15]
def yz:LSO:=[o1 3 (.mv (.av (.str [57,50,50,51,51,55,50,48,51,54,56,53,52,55,55,53,56,48,56])))]
def yy:LSO:=[Aa 16 0,Aj 17 189 16,Aa 18 17,.grp none 18 true
 [Ae 19 18 0,og 20 18 true (.idxS (tm 19) (iv 0)),og 21 18 true (.bin .neq (tm 20) (.av (.int .u8 48)))]
 22 (tm 21),Aa 23 22,.grp none 23 true
 [Ae 24 23 0,og 25 23 true (.len true (tm 24)),B8 26 23 25 19,Ae 27 23 26,.grp (some (23,true)) 27 false
 [Ag 28 27 0,Br 29 27 28,AI 30 27 29 19,Ag 31 27 30,.grp (some (27,false)) 31 true
 [Ae 32 31 0,Ae 33 31 3,og 34 31 true (.bin .leq (tm 32) (tm 33))]
 35 (tm 34)]
 36 (tm 35)]
 37 (tm 36),Aa 2 37]
def tI:aK:=⟨38,(ash yF [] (.seq (ash yE C4 (asj 5 (.sreg yD []))) (ash yC [] (.seq (ash yB CA (asi 13 (ash yA C6 (.sreg yz [])) .skip)) (ash yy CC .ret))))),[(.tmp 2)]⟩
attribute [push_cast] yF yE yD yC yB yA yz yy
theorem VQ:asm 139=asn tI:=asq
def Qx:LSO:=[Ac 2 0]
def Qw:LSO:=[Ac 3 0]
def Qv:LSO:=[Ac 4 0]
def Qu:LSO:=[Aa 5 4,Aa 6 0,Ax 7 6,Al 8 5 7]
def Qt:LSO:=[Aa 11 3,o1 12 (.bin .mul (iv 10) (tm 11)),Aa 13 0,Aa 14 4,AK 15 13 14,BN 16 15,By 17 16,AU 18 12 17,Aa 3 18]
def Qs:LSO:=[Aa 9 4,Ai 10 9 1,Aa 4 10]
def Qr:LSO:=[Aa 19 3,Aa 2 19]
def NT:aK:=⟨20,(ash Qx [] (ash Qw [] (.seq (ash Qv [] (ask 0 (.seq (ash Qu C7 (asl 8 0)) (.seq (.block 1 (.sreg Qt CL)) (.sreg Qs C6))))) (ash Qr C4 .ret)))),[(.tmp 2)]⟩
attribute [push_cast] Qx Qw Qv Qu Qt Qs Qr
theorem Z0:asm 190=asn NT:=asq
def yP:LSO:=[Af 2]
def yO:LSO:=[Aa 7 0,Ax 8 7,AB 9 8 15,Aa 10 9,.grp none 10 false
 [Ag 11 10 0,og 12 10 false (.slS (tm 11) none (some (iv 14))),AM 13 10 189 12,AZ 14 10 13]
 15 (tm 14),Aa 16 15,.grp none 16 false
 [Ag 17 16 0,Cc 18 16 17 14,og 19 16 false (.bin .neq (tm 18) (.av (.int .u8 90)))]
 20 (tm 19)]
def yN:LSO:=[Af 2]
def yM:LSO:=[Aa 21 0,o1 22 (.slS (tm 21) none (some (iv 4))),Aj 23 190 22,Aa 24 0,o1 25 (.slS (tm 24) (some (iv 4)) (some (iv 6))),Aj 26 190 25,Aa 27 0,
 o1 28 (.slS (tm 27) (some (iv 6)) (some (iv 8))),Aj 29 190 28,Aa 3 23,Aa 4 26,Aa 5 29]
def yL:LSO:=[Aa 30 4,AJ 31 30 1,Aa 32 31,.grp none 32 false
 [Ag 33 32 4,AC 34 32 33 12]
 35 (tm 34),Aa 36 35,.grp none 36 false
 [Ag 37 36 5,Bp 38 36 37 1]
 39 (tm 38),Aa 40 39,.grp none 40 false
 [Ag 41 40 0,Ce 42 40 41 8 10,AM 43 40 190 42,AC 44 40 43 23]
 45 (tm 44),Aa 46 45,.grp none 46 false
 [Ag 47 46 0,Ce 48 46 47 10 12,AM 49 46 190 48,AC 50 46 49 59]
 51 (tm 50),Aa 52 51,.grp none 52 false
 [Ag 53 52 0,Ce 54 52 53 12 14,AM 55 52 190 54,AC 56 52 55 59]
 57 (tm 56)]
def yK:LSO:=[Af 2]
def yJ:LSO:=[Ac 6 31]
def yI:LSO:=[Aa 58 4,An 59 58 4,Aa 60 59,.grp none 60 false
 [Ag 61 60 4,AI 62 60 61 6]
 63 (tm 62),Aa 64 63,.grp none 64 false
 [Ag 65 64 4,AI 66 64 65 9]
 67 (tm 66),Aa 68 67,.grp none 68 false
 [Ag 69 68 4,AI 70 68 69 11]
 71 (tm 70)]
def yH:LSO:=[Ac 6 30]
def yG:LSO:=[Aa 72 4,An 73 72 2]
def vE:LSO:=[Ac 6 28]
def vD:LSO:=[Aa 74 3,o1 75 (.bin .rem (tm 74) (iv 400)),An 76 75 0,Aa 77 76,.grp none 77 false
 [Ag 78 77 3,og 79 77 false (.bin .rem (tm 78) (iv 4)),AI 80 77 79 0,Ag 81 77 80,.grp (some (77,false)) 81 true
 [Ae 82 81 3,BM 83 81 82 100,Bq 84 81 83 0]
 85 (tm 84)]
 86 (tm 85)]
def vC:LSO:=[Ac 6 29]
def vB:LSO:=[Aa 87 5,Aa 88 6,o1 89 (.bin .leq (tm 87) (tm 88)),Aa 2 89]
def tJ:aK:=⟨90,(ash yP [] (.seq (ash yO CC (asj 20 (.sreg yN []))) (.seq (.sdreg yM [.pure,(.read 0 0),(.read 0 0),.pure,(.read 0 0),(.read 0 0),.pure,(.read 0 0)] Dk) (.seq (ash yL CK (asj 57 (.sreg yK []))) (ash yJ [] (.seq (ash yI CE (asi 71 (.sreg yH []) .skip)) (.seq (ash yG C4 (asi 73 (ash vE [] (ash vD CA (asi 86 (.sreg vC []) .skip))) .skip)) (ash vB C7 .ret)))))))),[(.tmp 2)]⟩
attribute [push_cast] yP yO yN yM yL yK yJ yI yH yG vE vD vC vB
theorem VS:asm 141=asn tJ:=asq
def Lz:LSO:=[Aw 4,Af 5]
def Ly:LSO:=[Aa 9 1,Ax 10 9,A7 11 10 4096]
def Lx:LSO:=[Aw 4,Af 5]
def Lw:LSO:=[Aa 12 0]
def Lv:LSO:=[An 14 12 1,Aa 13 14]
def Lu:LSO:=[Aa 15 1,Ax 16 15,A7 17 16 0,Aa 18 17,.grp none 18 true
 [Ae 19 18 1,Bb 20 18 138 19]
 21 (tm 20)]
def Lt:LSO:=[Aa 22 1,Aj 23 135 22,Aa 4 23,A5 5]
def Lr:LSO:=[An 25 12 2,Aa 24 25]
def Lq:LSO:=[Aa 26 1,Ax 27 26,A7 28 27 0,Aa 29 28,.grp none 29 true
 [Ae 30 29 1,Bb 31 29 138 30]
 32 (tm 31)]
def Lp:LSO:=[Aa 33 1,Aa 4 33,A5 5]
def Hb:LSO:=[An 35 12 3,Aa 34 35]
def Ha:LSO:=[Ac 6 0]
def G9:LSO:=[Aa 36 6,Aa 37 1,Ax 38 37,Al 39 36 38]
def G8:LSO:=[Aa 42 1,Aa 43 6,AK 44 42 43,o1 45 (.bin .geq (tm 44) (.av (.int .u8 128)))]
def G7:LSO:=[Aw 4,Af 5]
def G6:LSO:=[Aa 40 6,Ai 41 40 1,Aa 6 41]
def G5:LSO:=[Aa 46 1,Aj 47 135 46,Aa 4 47,A5 5]
def G4:LSO:=[An 49 12 4,Aa 48 49]
def G3:LSO:=[Aa 50 1,Aj 51 139 50]
def G2:LSO:=[Aa 52 1,Aa 4 52,A5 5]
def G1:LSO:=[An 54 12 5,Aa 53 54]
def G0:LSO:=[Aa 55 1,o1 56 (.bin .eql (tm 55) (.av (.str [84,82,85,69]))),Aa 57 56,.grp none 57 false
 [Ag 58 57 1,og 59 57 false (.bin .eql (tm 58) (.av (.str [70,65,76,83,69])))]
 60 (tm 59)]
def GZ:LSO:=[Aa 61 1,Aa 4 61,A5 5]
def GY:LSO:=[An 63 12 6,Aa 62 63]
def GX:LSO:=[Aa 65 1,Aj 66 140 65,Aa 64 66,Ao 67 64,Aq 68 64,Aa 7 67,Aa 8 68]
def GW:LSO:=[Aa 69 8,An 70 69 0]
def GV:LSO:=[Aa 71 7,Aa 4 71,A5 5]
def GU:LSO:=[An 73 12 7,Aa 72 73]
def GT:LSO:=[Aa 74 1,Aa 4 74,A5 5]
def GS:LSO:=[An 76 12 8,Aa 75 76]
def GR:LSO:=[Aa 77 1,Aj 78 141 77]
def GP:LSO:=[Aa 79 1,Aa 4 79,A5 5]
def GN:LSO:=[Aw 4,Af 5]
def E9:aK:=⟨80,(ash Lz [] (.seq (ash Ly C6 (asj 11 (.sreg Lx []))) (.seq (ash Lw [] (.block 0 (ash Lv C4 (asi 13 (ash Lu CA (asj 21 (.sreg Lt CM))) (ash Lr C4 (asi 24 (ash Lq CA (asj 32 (.sreg Lp CD))) (ash Hb C4 (asi 34 (.seq (ash Ha [] (ask 1 (.seq (ash G9 C7 (asl 39 1)) (.seq (.block 2 (ash G8 C7 (asj 45 (.sreg G7 [])))) (.sreg G6 C6))))) (ash G5 CM .ret)) (ash G4 C4 (asi 48 (ash G3 C4 (asj 51 (.sreg G2 CD))) (ash G1 C4 (asi 53 (ash G0 C7 (asj 60 (.sreg GZ CD))) (ash GY C4 (asi 62 (ash GX CH (ash GW C4 (asj 70 (.sreg GV CD)))) (ash GU C4 (asi 72 (ash GT CD .ret) (ash GS C4 (asi 75 (ash GR C4 (asj 78 (.sreg GP CD))) .skip)))))))))))))))))) (ash GN [] .ret)))),[(.tmp 4),(.tmp 5)]⟩
attribute [push_cast] Lz Ly Lx Lw Lv Lu Lt Lr Lq Lp Hb Ha G9 G8 G7 G6 G5 G4 G3 G2 G1 G0 GZ GY GX GW GV GU GT GS GR GP GN
theorem X7:asm 92=asn E9:=asq
def FD:LSO:=[Aw 4,Af 5]
def FC:LSO:=[Aa 10 1,Ax 11 10,A7 12 11 4096]
def FB:LSO:=[Aw 4,Af 5]
def FA:LSO:=[Aa 13 1,Aa 6 13,Af 7]
def Fz:LSO:=[Aa 14 0]
def Fy:LSO:=[An 16 14 1,Aa 15 16]
def Fx:LSO:=[Aa 17 1,Aj 18 104 17,Aa 19 1,Cf 20 19,Aa 21 20,.grp none 21 true
 [Ae 22 21 1,Bb 23 21 105 22]
 24 (tm 23),Aa 6 18,Aa 7 24]
def Fw:LSO:=[An 26 14 2,Aa 25 26]
def Fv:LSO:=[Aa 27 1,Cf 28 27,Aa 29 28,.grp none 29 true
 [Ae 30 29 1,Bb 31 29 105 30]
 32 (tm 31),Aa 7 32]
def Fu:LSO:=[An 34 14 3,Aa 33 34]
def xG:LSO:=[Aa 35 1,Aj 36 104 35,Aa 37 1,o1 38 (.call 106 [(tm 37),(.av (.func 107 []))]),AJ 39 38 0,Aa 6 36,Aa 7 39]
def xF:LSO:=[An 41 14 4,Aa 40 41]
def xE:LSO:=[Aa 43 1,Aj 44 108 43,Aa 42 44,Ao 45 42,Aq 46 42,Aa 7 46]
def xD:LSO:=[An 48 14 5,Aa 47 48]
def xC:LSO:=[Aa 49 1,o1 50 (.bin .eql (tm 49) (.av (.str [84,82,85,69]))),Aa 51 50,.grp none 51 false
 [Ag 52 51 1,og 53 51 false (.bin .eql (tm 52) (.av (.str [70,65,76,83,69])))]
 54 (tm 53),Aa 7 54]
def xB:LSO:=[An 56 14 6,Aa 55 56]
def xA:LSO:=[Aa 58 1,Aj 59 109 58,Aa 57 59,Ao 60 57,Aq 61 57,Aa 8 60,Aa 9 61]
def xz:LSO:=[Aa 62 8,Aa 63 9,An 64 63 0,Aa 6 62,Aa 7 64]
def xy:LSO:=[An 66 14 7,Aa 65 66]
def xx:LSO:=[A5 7]
def xw:LSO:=[An 68 14 8,Aa 67 68]
def xu:LSO:=[Aa 69 1,Aj 70 110 69,Aa 7 70]
def xt:LSO:=[Aa 71 7,A3 72 71]
def xr:LSO:=[Aw 4,Af 5]
def xq:LSO:=[Aa 73 6,Aa 4 73,A5 5]
def wt:aK:=⟨74,(ash FD [] (.seq (ash FC C6 (asj 12 (.sreg FB []))) (ash FA CD (.seq (ash Fz [] (.block 0 (ash Fy C4 (asi 15 (.sreg Fx CI) (ash Fw C4 (asi 25 (.sreg Fv CA) (ash Fu C4 (asi 33 (.sreg xG CH) (ash xF C4 (asi 40 (.sreg xE CB) (ash xD C4 (asi 47 (.sreg xC CA) (ash xB C4 (asi 55 (ash xA CH (.sreg xz CF)) (ash xy C4 (asi 65 (.sreg xx []) (ash xw C4 (asi 67 (.sreg xu C6) .skip)))))))))))))))))) (.seq (ash xt C4 (asj 72 (.sreg xr []))) (ash xq CD .ret)))))),[(.tmp 4),(.tmp 5)]⟩
attribute [push_cast] FD FC FB FA Fz Fy Fx Fw Fv Fu xG xF xE xD xC xB xA xz xy xx xw xu xt xr xq
theorem Wp:asm 68=asn wt:=asq
def xo:LSO:=[Ac 6 0,Af 7]
def xm:LSO:=[Aa 17 0,Aa 18 1,Ar 19 68 17 18,Aa 16 19,Ao 20 16,Aq 21 16,Aa 8 20,Aa 9 21]
def xl:LSO:=[Aa 23 0,Aa 24 2,Ar 25 68 23 24,Aa 22 25,Ao 26 22,Aq 27 22,Aa 10 26,Aa 11 27]
def xk:LSO:=[Aa 28 9,A3 29 28,Aa 30 29,.grp none 30 false
 [Ag 31 30 11,AZ 32 30 31]
 33 (tm 32),Aa 34 33,.grp none 34 false
 [Ag 35 34 0,AI 36 34 35 5]
 37 (tm 36),Aa 38 37,.grp none 38 false
 [Ag 39 38 0,AI 40 38 39 6]
 41 (tm 40),Aa 42 41,.grp none 42 false
 [Ag 43 42 0,AI 44 42 43 7]
 45 (tm 44)]
def xj:LSO:=[Ac 6 0,Af 7]
def xh:LSO:=[Aa 46 0,An 47 46 4]
def xg:LSO:=[Aa 49 8,Aj 50 108 49,Aa 48 50,Ao 51 48,Aq 52 48,Aa 12 51,Aa 13 52]
def xf:LSO:=[Aa 54 10,Aj 55 108 54,Aa 53 55,Ao 56 53,Aq 57 53,Aa 14 56,Aa 15 57]
def xe:LSO:=[Aa 58 12,Aa 59 14,Ar 60 117 58 59,Aa 6 60,A5 7]
def xd:LSO:=[Aa 61 8,Aa 62 10,Ar 63 118 61 62,Aa 6 63,A5 7]
def tD:aK:=⟨64,(ash xo [] (ash xm CI (ash xl CI (.seq (ash xk CG (asj 45 (.sreg xj []))) (.seq (ash xh C4 (asi 47 (ash xg Db (ash xf Db (ash xe CF .ret))) .skip)) (ash xd CF .ret)))))),[(.tmp 6),(.tmp 7)]⟩
attribute [push_cast] xo xm xl xk xj xh xg xf xe xd
theorem VO:asm 75=asn tD:=asq
attribute [push_cast] lP pm jm jl NS tK NT tD
variable {L:List Blk}{K:aoY}
set_option maxHeartbeats 8000000
set_option maxRecDepth 100000
theorem af7{x:Int}{L:List Blk}{K:aoY}(h:K (.bool (decide ((128:Int)<=x))) L):aoX 107 [.int .i32 x] L K:=by replace h:=hid h;refine aoW Ss ?_;exact aa h.o
def WN(s:List UInt8):Bool:=s.all λc=>decide (c.toNat<128)
theorem am5{s:List UInt8}(B:s.length<=1100000)(j:WN s=true->K (.int .i64 (-1)) L)(d:∀k:Nat,WN s=false->K (.int .i64 (k:Int)) L):
  aoX 161 [.str s,.func 107 [],.bool true] L K:=by
 replace j:=hid j;replace d:=hid d;refine aoW EX ?_;refine ak (λn T' L'=>∃p,n=s.length-p/\p<=s.length/\Hid (WN (s.take p)=true)/\T'=[(10,.ptr L.length 0),(1,.func 107 []),(2,.bool true)]/\L'=L++[.siter s p]) ass ⟨0,rfl,ao2 _,hid rfl,rfl,rfl⟩ ?_;rintro _ _ _ ⟨p,rfl,C,f,rfl,rfl⟩;by_cases b:p<s.length;obtain⟨c,h⟩:=aoT (s.getD p 0);have z:=c.toNat_lt;have i:s.take (p+1)=s.take p++[c]:=by rw[aph b,<- h];simp[b]
 have a:WN (s.take (p+1))=decide (c.toNat<128):=by have:=f.o;unfold WN at this⊢;rw[i,arW,this];simp
 by_cases l:c.toNat<128;have r:=ZI b (by rw[h];exact l);rw[h]at r;have w0:IntKind.i32.wrap (c.toNat:Int)=(c.toNat:Int):=YD aso aso;have w:¬(128:Int)<=(c.toNat:Int):=aso;replace a:=hid (a.trans (decide_eq_true l));clear h l i;have kk1:=@hid _ @af7;refine wk ?_;exact ast aso ass ⟨p+1,rfl,b,a,rfl,rfl⟩;have v:=abr b (by rw[h];omega);obtain⟨⟨x,A⟩,r⟩:∃q,XY s p=q:=⟨_,rfl⟩;rw[r]at v;simp only at v;have w:(128:Int)<=(x:Int):=aso;have g:WN s=false:=by rw[<- aqF];intro e;have y:c∈s:=(by rw[<- h];simp[b]);have:=apa.1 e c y;simp at this;omega
 have m:=hid (d.o p g);clear h l i a g;have kk1:=@hid _ @af7;refine wk ?_;exact ac rfl m.o;have t:p=s.length:=aso;subst t;have u:=f.o;rw[apg]at u;have m:=hid (j.o u);clear u;refine wk ?_;exact ac rfl m.o
theorem aju{s:List UInt8}(d:s.length<=1100000)(b:WN s=true->K (.int .i64 (-1)) L)(a:∀k:Nat,WN s=false->K (.int .i64 (k:Int)) L):
  aoX 106 [.str s,.func 107 []] L K:=by
 replace b:=hid b;replace a:=hid a;refine aoW EY ?_;refine am5 d (λe=>?_) (λk e=>?_);have c:=hid (b.o e);refine asw ?_;exact aa c.o;have c:=hid (a.o k e);refine asw ?_;exact aa c.o
def dig(v:List UInt8)(i:Nat):Nat:=(v.getD i 0).toNat-48
def two(v:List UInt8)(i:Nat):Nat:=10*dig v i+dig v (i+1)
def ic(c:UInt8):Bool:=decide (48<=c.toNat)&&decide (c.toNat<=57)
def ajl(y:Nat):Bool:=decide (y%4=0) && !decide (y%100=0) ||decide (y%400=0)
def acq(m:Nat):Nat:=if m=2 then 28 else if m=4\/m=6\/m=9\/m=11 then 30 else 31
def aba(y m:Nat):Nat:=if m=2/\ajl y=true then acq m+1 else acq m
def adX(v:List UInt8):Bool:=decide ((1<=two v 4/\two v 4<=12)/\1<=two v 6/\two v 8<=23/\two v 10<=59/\two v 12<=59)&&decide (two v 6<=aba (two v 0*100+two v 2) (two v 4))
def Nt(v:List UInt8):Bool:=decide (v.length=15)&&decide (v.getD 14 0=90)&&(v.take 14).all ic&&adX v
theorem anN{v:List UInt8}{i p:Nat}{z:Int}(r:z=(i:Int))(C:i+1<v.length)(A:v.length<=1000)(e:ic (v.getD i 0)=true)(d:ic (v.getD (i+1) 0)=true)(G:L[p]?=some (.cells [.str v]))(h:K (.int .i64 (two v i:Nat)) L):
  aoX 164 [.int .i64 z,.ptr p 0] L K:=by
 subst r;unfold two dig at h;obtain⟨a,f⟩:=aoT (v.getD i 0);obtain⟨b,m⟩:=aoT (v.getD (i+1) 0);rw[f]at e h;rw[m]at d h;simp only[ic,ao3,decide_eq_true_eq]at e d;obtain⟨x,g⟩:∃x:Nat,a.toNat=48+x:=⟨a.toNat-48,aso⟩;obtain⟨y,n⟩:∃y:Nat,b.toNat=48+y:=⟨b.toNat-48,aso⟩;have l:x<=9:=aso;have j:y<=9:=aso;rw[show 10*(a.toNat-48)+(b.toNat-48)=10*x+y by omega]at h;have k:(a.toNat:Int)=48+(x:Int):=aso;have q:(b.toNat:Int)=48+(y:Int):=aso;have g1:(i:Int)<(v.length:Int):=aso;have D:=aoV i aso;have g3:(i:Int)+1<(v.length:Int):=aso;have g4:((i:Int)+1).toNat=i+1:=aso;have F:(0:Int)<=(i:Int)+1:=aso;have t:IntKind.u8.wrap (48+(x:Int)-48)=(x:Int):=by rw[dw aso aso];omega
 have B:IntKind.u8.wrap (48+(y:Int)-48)=(y:Int):=by rw[dw aso aso];omega
 have w:IntKind.i64.wrap (x:Int)=(x:Int):=ae aso aso;have s:IntKind.i64.wrap (y:Int)=(y:Int):=ae aso aso;have E:IntKind.i64.wrap ((x:Int)*10)=(x:Int)*10:=ae aso aso;have u:IntKind.i64.wrap ((x:Int)*10+(y:Int))=(x:Int)*10+(y:Int):=ae aso aso;have c:K (.int .i64 ((x:Int)*10+(y:Int))) L:=by rwa[show((10*x+y:Nat):Int)=(x:Int)*10+(y:Int)by omega]at h
 replace c:=hid c;clear h e d g n;refine aoW NN ?_;exact aa c.o
theorem alO{m:Nat}(b:1<=m)(c:m<=12){l:List AV}(a:gb 2=some l):l.getD (m-1) .undef=.int .i64 (acq m:Nat)/\l.length=12:=by
 have e:gb 2=some [.int .i64 31,.int .i64 28,.int .i64 31,.int .i64 30,.int .i64 31,.int .i64 30,.int .i64 31,.int .i64 31,.int .i64 30,.int .i64 31,.int .i64 30,.int .i64 31]:=by rfl
 rw[e]at a;cases a;have:m=1\/m=2\/m=3\/m=4\/m=5\/m=6\/m=7\/m=8\/m=9\/m=10\/m=11\/m=12:=aso;rcases this with rfl|rfl|rfl|rfl|rfl|rfl|rfl|rfl|rfl|rfl|rfl|rfl<;>exact⟨rfl,rfl⟩
theorem kz{v:List UInt8}{i:Nat}(a:ic (v.getD i 0)=true)(b:ic (v.getD (i+1) 0)=true):two v i<=99:=by simp only[ic,ao3,decide_eq_true_eq]at a b;unfold two dig;omega
theorem adr{v:List UInt8}(hv:v.length<=1100000)(h:K (.bool (Nt v)) L):aoX 110 [.str v] L K:=by
 have no:Nt v=false->K (.bool false) L:=λe=>by rw[<- e];exact h
 replace no:=hid no;replace h:=hid h;refine ab Sr (by simp[pl]) ?_;simp only[pl,ag];by_cases j:v.length=15;rotate_left;have f1:¬(v.length:Int)=15:=aso;have Z:=hid (no.o (by simp[Nt,j]));clear j;refine wk ?_;exact ac rfl Z.o;have f1:(v.length:Int)=15:=aso;obtain⟨z,E⟩:=aoT (v.getD 14 0);by_cases g:z=90;rotate_left;have f2:¬(z.toNat:Int)=90:=λe=>g ((bQ z 90).1 e)
 have Z:=hid (no.o (by simp[Nt,<- E]at g⊢;simp[g]));clear g;refine wk ?_;exact ac rfl Z.o;have f2:(z.toNat:Int)=90:=by rw[g];rfl
 obtain⟨w,x⟩:=aoT (v.take 14);have A:w.length=14:=by rw[<- x];simp[j]
 have f3:(14:Int)<=(v.length:Int):=aso;have ad:(u8s w).length=14:=by simp[u8s,A]
 have r:=hid (show w.all ic=false->K (.bool false) L from λe=>no.o (by simp[Nt,x,e]));replace x:=hid x;have F:v.take 14=w:=x.o;have f4:(0:Int)<=14:=aso;refine wk ?_;refine ak (λn T' L'=>∃i:Nat,n=14-i/\i<=14/\Hid ((w.take i).all ic=true)/\T'=[(22,.int .i64 (i:Int)),(21,.int .i64 14),(20,.sl (u8s w) 14 none),(1,.ptr L.length 0)]/\L'=L++[.cells [.str v]]) ass ⟨0,rfl,ao2 _,hid rfl,rfl,rfl⟩ ?_;rintro _ _ _ ⟨i,rfl,Q,k,rfl,rfl⟩;by_cases X:i<14
 .have g1:(i:Int)<14:=aso;have g2:=aoV i aso;obtain⟨c,R⟩:=aoT (w.getD i 0);have g3:(u8s w).getD i .undef=.int .u8 c.toNat:=(by rw[<- R];simp[u8s,show i<w.length by omega]);have hm:c∈w:=(by rw[<- R];simp[show i<w.length by omega]);have G:w.take (i+1)=w.take i++[c]:=(by rw[aph aso,<- R];simp[show i<w.length by omega]);have U:=hid λ(e:ic c=false)=>r.o (List.all_eq_false.2 ⟨c,hm,by rw[e];simp⟩)
  have O:=hid λ(e:ic c=true)=>show(w.take (i+1)).all ic=true by rw[G,arW,k.o];simp[e]
  clear R hm G F j A
  repeat' first
   |refine bH ?_
   | (first|refine bv asq ?_|refine aP asq ?_|refine aS ?_|refine cT ?_|refine bJ (fun _=>?_)|refine aH ?_|refine bz ?_)
     refine sm ?_
   | (first|refine bp asq ?_|refine bm ?_|refine aR ?_|refine bw ?_|refine bP (aG ?_))
     refine sl ?_
   |exact bL
   |first|apply bM|apply bq|apply bN|apply br|apply bO|apply bu
   |refine aV ?_
   |refine aQ ?_
   |first|refine aT rfl ?_|refine aU rfl ?_|refine aB rfl ?_ ?_|refine aX rfl (λ_=>?_) (λ_=>?_)|refine aW rfl (λ_=>?_) (λ_=>?_)
   |((first|refine aA (λ_=>?_) (λ_=>?_)|refine aE (λ_=>?_) (λ_=>?_))<;>try refine sm ?_)
   |refine And.intro trivial ?_
   |refine And.intro aso ?_
   |refine be rfl (λ_=>?_) (λ_=>?_)
   |refine And.intro ?_ ?_
  rename_i T;refine ac rfl (U.o ?_);simp only[ic,arA,decide_eq_false_iff_not];omega;rename_i T;refine ast aso asr ⟨i+1,rfl,aso,hid (O.o ?_),rfl,rfl⟩;simp only[ic,ao3,decide_eq_true_eq];omega
 have V:i=14:=aso;subst V;have g1:¬((14:Nat):Int)<14:=aso;have t:=k.o;rw[apA aso]at t;have b:∀i,i<14->ic (v.getD i 0)=true:=λi Q=>by refine apa.1 t _ ?_;rw[<- x.o];have:v.getD i 0=(v.take 14)[i]'(by simp;omega):=(by simp[show i<v.length by omega]);rw[this];exact apZ _
 have s:Nt v=adX v:=by simp only[Nt,j,E,g,x.o,t];simp
 have y:∀i:Nat,i+1<14->∀(z:Int) (K:AV->List Blk->Prop),z=(i:Int)->K (.int .i64 (two v i:Nat)) (L++[.cells [.str v]])->aoX 164 [.int .i64 z,.ptr L.length 0] (L++[.cells [.str v]]) K:=λi Q z K E h =>
  anN E aso aso (b i aso) (b (i+1) Q) (Yv _ _ _) h
 have b0:=kz (b 0 aso) (b 1 aso);have b2:=kz (b 2 aso) (b 3 aso);have b4:=kz (b 4 aso) (b 5 aso);have b6:=kz (b 6 aso) (b 7 aso);have b8:=kz (b 8 aso) (b 9 aso);have W:=kz (b 10 aso) (b 11 aso);have ai:=kz (b 12 aso) (b 13 aso);have kk1:=@hid _ (λ{K:aoY}=>y 0 aso 0 K rfl);have kk2:=@hid _ (λ{K:aoY}=>y 2 aso 2 K rfl);have kk3:=@hid _ (λ{K:aoY}=>y 4 aso 4 K rfl);have kk4:=@hid _ (λ{K:aoY}=>y 6 aso 6 K rfl);have kk5:=@hid _ (λ{K:aoY}=>y 8 aso 8 K rfl);have kk6:=@hid _ (λ{K:aoY}=>y 10 aso 10 K rfl);have kk7:=@hid _ (λ{K:aoY}=>y 12 aso 12 K rfl);have a:=h.o;rw[s]at a;unfold adX at a;obtain⟨Y,hY⟩:=aoT (two v 0);obtain⟨p,J⟩:=aoT (two v 2);obtain⟨M,hM⟩:=aoT (two v 4);obtain⟨D,hD⟩:=aoT (two v 6);obtain⟨H,hH⟩:=aoT (two v 8);obtain⟨I,hI⟩:=aoT (two v 10);obtain⟨S,hS⟩:=aoT (two v 12);rw[hY]at b0 a kk1;rw[J]at b2 a kk2;rw[hM]at b4 a kk3;rw[hD]at b6 a kk4;rw[hH]at b8 a kk5;rw[hI]at W a kk6;rw[hS]at ai a kk7;clear hY J hM hD hH hI hS y s b t k F x r j A ad Q X f1 f2 f3 f4 hv g E no h;have w1:IntKind.i64.wrap ((Y:Int)*100)=(Y:Int)*100:=ae aso aso;have w2:IntKind.i64.wrap ((Y:Int)*100+(p:Int))=(Y:Int)*100+(p:Int):=ae aso aso;have f:¬((1<=M/\M<=12)/\1<=D/\H<=23/\I<=59/\S<=59)->K (.bool false) L:=λe=>by rw[decide_eq_false e]at a;simpa using a
 replace f:=hid f;replace a:=hid a;by_cases m1:(M:Int)<1;refine wk ?_;exact ac rfl (f.o aso);by_cases m2:(12:Int)<(M:Int);refine wk ?_;exact ac rfl (f.o aso);by_cases m3:(D:Int)<1;refine wk ?_;exact ac rfl (f.o aso);by_cases m4:(23:Int)<(H:Int);refine wk ?_;exact ac rfl (f.o aso);by_cases m5:(59:Int)<(I:Int);refine wk ?_;exact ac rfl (f.o aso);by_cases m6:(59:Int)<(S:Int);refine wk ?_;exact ac rfl (f.o aso);have B:=hid (show decide (D<=aba (Y*100+p) M)=true\/decide (D<=aba (Y*100+p) M)=false by cases decide (D<=aba (Y*100+p) M)<;>simp);have d:=a.o;rw[show decide ((1<=M/\M<=12)/\1<=D/\H<=23/\I<=59/\S<=59)=true by simp;omega,apy]at d;unfold aba ajl at d;obtain⟨dn,u⟩:=aoT (acq M);have ap:dn<=31:=by rw[<- u];unfold acq;split<;>(try split)<;>omega
 obtain⟨r4,P⟩:=aoT ((Y*100+p)%4);obtain⟨N,l⟩:=aoT ((Y*100+p)%100);obtain⟨C,q⟩:=aoT ((Y*100+p)%400);rw[P,l,q,u]at d;have t4:Int.tmod ((Y:Int)*100+(p:Int)) 4=(r4:Int):=by rw[aq6 aso];omega
 have al:Int.tmod ((Y:Int)*100+(p:Int)) 100=(N:Int):=by rw[aq6 aso];omega
 have an:Int.tmod ((Y:Int)*100+(p:Int)) 400=(C:Int):=by rw[aq6 aso];omega
 have x1:IntKind.i64.wrap ((M:Int)-1)=(M:Int)-1:=ae aso aso;have x2:((M:Int)-1).toNat=M-1:=aso;have x3:(0:Int)<=(M:Int)-1:=aso;have x4:(M:Int)-1<12:=aso;obtain⟨x5,x6⟩:=alO (m:=M) aso aso adR;rw[u]at x5;have x7:=aoV dn aso;replace d:=hid d;clear P l q u B
 repeat' first
  |refine bH ?_
  | (first|refine bv asq ?_|refine aP asq ?_|refine aS ?_|refine cT ?_|refine bJ (fun _=>?_)|refine aH ?_|refine bz ?_|refine kk1.o ?_|refine kk2.o ?_|refine kk3.o ?_|refine kk4.o ?_|refine kk5.o ?_|refine kk6.o ?_|refine kk7.o ?_|refine bg (kk1.o ⟨rfl,rfl⟩) (kk1.o ⟨rfl,rfl⟩) ?_|refine bg (kk2.o ⟨rfl,rfl⟩) (kk2.o ⟨rfl,rfl⟩) ?_|refine bg (kk3.o ⟨rfl,rfl⟩) (kk3.o ⟨rfl,rfl⟩) ?_|refine bg (kk4.o ⟨rfl,rfl⟩) (kk4.o ⟨rfl,rfl⟩) ?_|refine bg (kk5.o ⟨rfl,rfl⟩) (kk5.o ⟨rfl,rfl⟩) ?_|refine bg (kk6.o ⟨rfl,rfl⟩) (kk6.o ⟨rfl,rfl⟩) ?_|refine bg (kk7.o ⟨rfl,rfl⟩) (kk7.o ⟨rfl,rfl⟩) ?_|refine aM (kk1.o ⟨rfl,rfl⟩) ?_|refine aM (kk2.o ⟨rfl,rfl⟩) ?_|refine aM (kk3.o ⟨rfl,rfl⟩) ?_|refine aM (kk4.o ⟨rfl,rfl⟩) ?_|refine aM (kk5.o ⟨rfl,rfl⟩) ?_|refine aM (kk6.o ⟨rfl,rfl⟩) ?_|refine aM (kk7.o ⟨rfl,rfl⟩) ?_)
    refine sm ?_
  | (first|refine bp asq ?_|refine bm ?_|refine aR ?_|refine bw ?_|refine bP (aG ?_))
    refine sl ?_
  |exact bL
  |first|apply bM|apply bq|apply bN|apply br|apply bO|apply bu
  |refine aV ?_
  |refine aQ ?_
  |first|refine aT rfl ?_|refine aU rfl ?_|refine aB rfl ?_ ?_|refine aX rfl (λ_=>?_) (λ_=>?_)|refine aW rfl (λ_=>?_) (λ_=>?_)
  |((first|refine aA (λ_=>?_) (λ_=>?_)|refine aE (λ_=>?_) (λ_=>?_))<;>try refine sm ?_)
  |refine And.intro trivial ?_
  |refine And.intro aso ?_
  |refine be rfl (λ_=>?_) (λ_=>?_)
  |refine And.intro ?_ ?_
 rename_i T;refine ac rfl ?_;have e:=d.o;rw[if_pos ⟨aso,by simp;omega⟩]at e;rwa[show decide (D<=dn+1)=decide ((D:Int)<=(dn:Int)+1)by simp only[decide_eq_decide];omega]at e;rename_i T;refine ac rfl ?_;have e:=d.o;rw[if_neg (λ⟨e1,e2⟩=>T ⟨aso,by simp at e2;omega⟩)]at e;rwa[show decide (D<=dn)=decide ((D:Int)<=(dn:Int))by simp only[decide_eq_decide];omega]at e
end Go.Proofs.YtdnfjhflkkpokaaGreatDoor.Av
set_option maxRecDepth 100000
namespace Go.Proofs.YtdnfjhflkkpokaaGreatDoor.Av
open Go
variable {w w0:World}{S0:SB}{E:Env}{l a b v n:List UInt8}{syn:Int}
def rq:LSO:=[Af 2]
def rp:LSO:=[Aa 3 0,Aa 4 0,Bz 5 3 4,Aa 2 5]
def lU:aK:=⟨6,(ash rq [] (ash rp C7 .ret)),[(.tmp 2)]⟩
attribute [push_cast] rq rp
theorem N0:asm 171=asn lU:=asq
def mP:LSO:=[Ac 4 0]
def mO:LSO:=[Aa 7 0,Aj 8 171 7,Aa 5 8]
def mN:LSO:=[Aa 9 1,Aj 10 171 9,Aa 6 10]
def mM:LSO:=[Aa 11 5]
def mL:LSO:=[Aa 12 6]
def mK:LSO:=[Ac 4 0]
def mJ:LSO:=[Ac 4 (-1)]
def mI:LSO:=[Aa 13 6]
def mH:LSO:=[Ac 4 1]
def mG:LSO:=[Aa 14 0,Aa 15 1,Al 16 14 15]
def lH:LSO:=[Ac 4 (-1)]
def lG:LSO:=[Aa 17 0,Aa 18 1,o1 19 (.bin .gtr (tm 17) (tm 18))]
def lF:LSO:=[Ac 4 1]
def lE:LSO:=[Ac 4 0]
def jp:aK:=⟨20,(ash mP [] (ash mO C6 (ash mN C6 (.seq (ash mM [] (asi 11 (.seq (ash mL [] (asj 12 (.sreg mK []))) (ash mJ [] .ret)) .skip)) (.seq (ash mI [] (asj 13 (.sreg mH []))) (.seq (ash mG C6 (asj 16 (.sreg lH []))) (.seq (ash lG C6 (asj 19 (.sreg lF []))) (ash lE [] .ret)))))))),[(.tmp 4)]⟩
attribute [push_cast] mP mO mN mM mL mK mJ mI mH mG lH lG lF lE
theorem Fn:asm 117=asn jp:=asq
def Nc:LSO:=[Ay 1 0,Ac 2 0]
def Nb:LSO:=[Cp 3,As 4 5 1,Bu 5 112 3 4 1,Aa 2 5]
def Fl:aK:=⟨6,(ash Nc [] (ash Nb C7 .ret)),[(.tmp 2)]⟩
attribute [push_cast] Nc Nb
theorem Yi:asm 71=asn Fl:=asq
def lD:LSO:=[Ay 4 1,Ac 6 0]
def lC:LSO:=[Aa 10 2,A7 11 10 64]
def lB:LSO:=[Ac 6 6]
def lA:LSO:=[Aa 12 0,Au 13 12,Ad 14 0 13,Ab 15 1 14,Ai 16 15 1,Au 17 12,Ad 18 0 17,Ap 1 18 16]
def lz:LSO:=[Aa 19 0,Au 20 19,Ad 21 0 20,Ab 22 1 21,A7 23 22 1000]
def lw:LSO:=[Ac 6 9]
def lv:LSO:=[Ad 25 0 4,Ab 26 1 25,AJ 27 26 0,Aa 28 27,.grp none 28 false
 [A8 29 28 0 4,A6 30 28 1 29,AC 31 28 30 8]
 32 (tm 31),Aa 24 32]
def lu:LSO:=[Ac 6 24]
def lr:LSO:=[Ad 34 0 4,Ab 35 1 34,An 36 35 2,Aa 37 36,.grp none 37 true
 [Az 38 37 4 4,A0 39 37 1 38,AE 40 37 39,Bq 41 37 40 1]
 42 (tm 41),Aa 33 42]
def lq:LSO:=[Ac 6 2]
def ke:LSO:=[Ad 44 0 4,Ab 45 1 44,o1 46 (.bin .leq (tm 45) (iv 2)),Aa 43 46]
def kc:LSO:=[Ad 47 4 4,Ab 48 1 47,Ah 49 48,Ac 50 0]
def kb:LSO:=[Al 51 50 49]
def ka:LSO:=[Am 52 5 48 50,As 53 5 52,BU 8,Ap 5 8 53]
def j9:LSO:=[Aa 54 0,As 55 5 8,Aa 56 2,Ai 57 56 1,AF 58 112 54 55 57,Aa 9 58]
def j8:LSO:=[Aa 59 9,AB 60 59 0]
def j7:LSO:=[Aa 61 9,Aa 6 61]
def jZ:LSO:=[Ai 62 50 1,Aa 50 62]
def jY:LSO:=[Ad 64 1 4,Ab 65 1 64,Aj 66 120 65,A3 67 66,Aa 63 67]
def jX:LSO:=[Ac 6 20]
def jW:LSO:=[Ad 69 0 4,Ab 70 1 69,An 71 70 4,Aa 72 71,.grp none 72 true
 [Az 73 72 3 4,A0 74 72 1 73,Bb 75 72 167 74,Bt 76 72 75]
 77 (tm 76),Aa 68 77]
def jV:LSO:=[Ac 6 4]
def jU:LSO:=[Ac 6 0]
def iZ:aK:=⟨78,(ash lD [] (.seq (ash lC C4 (asj 11 (.sreg lB []))) (.seq (ash lA CT (ash lz CA (asj 23 (.sreg lw [])))) (.seq (.block 0 (ash lv CB (asi 24 (ash lu [] .ret) (ash lr CB (asi 33 (ash lq [] .ret) (ash ke C7 (asi 43 (ash kc CJ (ask 1 (ash kb [] (.seq (asl 51 1) (.seq (.block 2 (ash ka C6 (ash j9 CB (ash j8 C4 (asj 60 (.sreg j7 C4)))))) (.sreg jZ C4)))))) (ash jY CA (asi 63 (ash jX [] .ret) (ash jW CB (asj 68 (.sreg jV [])))))))))))) (ash jU [] .ret))))),[(.tmp 6)]⟩
attribute [push_cast] lD lC lB lA lz lw lv lu lr lq ke kc kb ka j9 j8 j7 jZ jY jX jW jV jU
theorem Eu:asm 112=asn iZ:=asq
def Jr:LSO:=[Af 2]
def Jq:LSO:=[Aa 5 0,Ah 6 5,Ac 7 0]
def Jp:LSO:=[Al 8 7 6]
def Jo:LSO:=[Aa 9 7,Am 10 2 5 7,As 11 2 10,Cq 4,Aa 3 9,Ap 2 4 11]
def Jn:LSO:=[Ad 13 1 4,Ab 14 1 13,BR 15 14,Aa 16 15,.grp none 16 false
 [A8 17 16 0 4,A6 18 16 1 17,Bp 19 16 18 0]
 20 (tm 19),Aa 21 20,.grp none 21 false
 [A8 22 21 0 4,A6 23 21 1 22,AC 24 21 23 2]
 25 (tm 24),Aa 12 25]
def Jm:LSO:=[Af 2]
def Jl:LSO:=[Ad 27 0 4,Ab 28 1 27,An 29 28 0,Aa 30 29,.grp none 30 true
 [Ae 31 30 3,BC 32 30 31 0]
 33 (tm 32),Aa 34 33,.grp none 34 false
 [A8 35 34 0 4,A6 36 34 1 35,AI 37 34 36 2,Ag 38 34 37,.grp (some (34,false)) 38 true
 [Ae 39 38 3,Ae 40 38 0,AE 41 38 40,BT 42 38 41 1,Cr 43 38 39 42]
 44 (tm 43)]
 45 (tm 44),Aa 26 45]
def Jk:LSO:=[Af 2]
def Jj:LSO:=[Ai 46 7 1,Aa 7 46]
def Ji:LSO:=[Aa 47 0,Ah 48 47,A7 49 48 0,Aa 2 49]
def wQ:aK:=⟨50,(ash Jr [] (.seq (ash Jq [] (ask 0 (ash Jp [] (.seq (asl 8 0) (.seq (.block 1 (ash Jo CF (.block 2 (ash Jn CE (asi 12 (ash Jm [] .ret) (ash Jl CE (asj 26 (.sreg Jk [])))))))) (.sreg Jj C4)))))) (ash Ji C7 .ret))),[(.tmp 2)]⟩
attribute [push_cast] Jr Jq Jp Jo Jn Jm Jl Jk Jj Ji
theorem WI:asm 167=asn wQ:=asq
def FN:LSO:=[Af 6,Af 7]
def FM:LSO:=[Aa 15 0,Aa 16 1,Ar 17 68 15 16,Aa 14 17,Ao 18 14,Aq 19 14,Aa 8 18,Aa 9 19]
def FL:LSO:=[Aa 20 9,A3 21 20,Aa 22 21,.grp none 22 false
 [Ag 23 22 0,Bi 24 22 23 1,Ag 25 22 24,.grp (some (22,false)) 25 true
 [Ae 26 25 0,Bq 27 25 26 2]
 28 (tm 27),Ag 29 22 28,.grp (some (22,false)) 29 true
 [Ae 30 29 0,Bq 31 29 30 3]
 32 (tm 31)]
 33 (tm 32),Aa 34 33,.grp none 34 false
 [Ag 35 34 2,og 36 34 false (.build [(.int .i64 0),(.str []),(.str []),(.sl [] 0 (some 0)),(.sl [] 0 (some 0))] [(0,(1,(iv 4))),(1,(1,(.av (.str [97])))),(3,(1,(tm 35)))]),
 AM 37 34 71 36,Bi 38 34 37 0]
 39 (tm 38)]
def FK:LSO:=[Af 6,Af 7]
def FJ:LSO:=[Aa 40 2,Ah 41 40,Ac 42 0]
def FI:LSO:=[Al 43 42 41]
def FH:LSO:=[Am 44 2 40 42,As 45 2 44,Cq 11,Ap 2 11 45]
def FG:LSO:=[Ad 46 1 11,Ab 47 1 46,Aa 12 47]
def FF:LSO:=[Aa 48 0,AB 49 48 2]
def FE:LSO:=[Aa 50 12,Aj 51 46 50,Aa 12 51]
def xO:LSO:=[Aa 52 8,Aa 53 12,Ar 54 114 52 53,Aa 13 54]
def xN:LSO:=[Ad 56 0 11,Ab 57 1 56,An 58 57 0,Aa 59 58,.grp none 59 true
 [Ae 60 59 8,Ae 61 59 12,AN 62 59 115 60 61,Bt 63 59 62]
 64 (tm 63),Aa 55 64]
def xM:LSO:=[Ad 65 0 11,Ab 66 1 65,An 67 66 2,Aa 68 67,.grp none 68 true
 [Ae 69 68 8,Ae 70 68 12,AN 71 68 116 69 70,Bt 72 68 71]
 73 (tm 72),Aa 55 73]
def xL:LSO:=[Aa 74 13,AJ 75 74 0,Aa 55 75]
def xK:LSO:=[Af 6,A5 7]
def xJ:LSO:=[Aa 76 8,Aa 77 13,Aa 78 12,Ax 79 78,AU 80 77 79,BQ 81 76 80,Aa 8 81]
def xI:LSO:=[Ai 82 42 1,Aa 42 82]
def xH:LSO:=[A5 6,A5 7]
def wu:aK:=⟨83,(ash FN [] (ash FM CI (.seq (ash FL CB (asj 39 (.sreg FK []))) (.seq (ash FJ [] (ask 0 (ash FI [] (.seq (asl 43 0) (.seq (.block 1 (ash FH C6 (ash FG C6 (.seq (ash FF C4 (asi 49 (.sreg FE C6) .skip)) (ash xO C7 (.seq (.block 2 (.seq (ash xN CB (asi 55 .skip (ash xM CB (asi 55 .skip (.sreg xL C6))))) (asj 55 (.sreg xK [])))) (.sreg xJ CC))))))) (.sreg xI C4)))))) (ash xH [] .ret))))),[(.tmp 6),(.tmp 7)]⟩
attribute [push_cast] FN FM FL FK FJ FI FH FG FF FE xO xN xM xL xK xJ xI xH
theorem Wq:asm 74=asn wu:=asq
attribute [push_cast] lU Fl iZ wQ wu
variable {L:List Blk}{K:aoY}
set_option maxHeartbeats 8000000
set_option maxRecDepth 100000
theorem aiT:gb 6=some (Lib.pow10Tab.map (AV.int .u64)):=by rfl
theorem ag3:Tryz.prog.globalNamed "internal/strconv.uint64pow10" = some 6:=asq
theorem anZ{n:Int}(a:I64 n)(h:K (.str (Lib.itoa n)) L):aoX 163 [.int .i64 n,.int .i64 10] L K :=
 dD Tryz.func163 rfl asq (λw0 S0 E w vs f b=>by simp only[VRL,VR]at b;obtain⟨_,_,rfl,rfl,_,_,rfl,rfl,rfl⟩:=b;refine(Tryz.strconv_FormatInt_10 n a.1 a.2 w (f.table ag3 aiT (by simp[Lib.pow10Tab]))).mono λe w' ⟨d,k,os,c⟩=>⟨_,d,by simp[VR],by subst c;exact EA.of_grow w k os⟩) h
theorem EP{w':World}(h:RowKit.Below w.heap.size w w'):EA w w':=⟨λb a=>h.block b a,h.size,h.os,h.tape,h.output⟩
theorem adW{L:List Blk}(c:Rel w0 S0 E L w){g:Nat}{t:TypeId}(d:gb g=some [.iface t .undef]):∃x,w.cell? ⟨g,0,none⟩=some (.iface t x):=by have e:=ER d;obtain⟨v,f,b⟩:=(c.glob.env e).get (i:=0) (a:=.iface t .undef) rfl;simp only[VR]at b;obtain⟨x,rfl,_⟩:=b;exact⟨x,by simpa using c.mem _ _ _ f⟩
theorem aiW{n:Int}(g:(l.length:Int)<=1100000)(c:Lib.parseIntB 64 l=.ok n)(h:K (.tup [.int .i64 n,.nilif]) L):aoX 162 [.str l,.int .i64 10,.int .i64 64] L K :=
 dD Tryz.func162 rfl asq (λw0 S0 E w vs f a=>by
  simp only[VRL,VR]at a;obtain⟨_,_,rfl,rfl,_,_,rfl,rfl,_,_,rfl,rfl,rfl⟩:=a;refine(Tryz.strconv_ParseInt_10_at64_ok ⟨⟨l⟩⟩ (show l.length<=_ by omega) n c w).mono λe w' ⟨d,b⟩=>⟨_,d,by simp[VR,VRL],?_⟩
  rcases b with rfl|⟨t,rfl⟩;exact EA.refl _;exact EP (Lib.bytesWorld_below _ _ _)) h
theorem aiX(k:(l.length:Int)<=1100000)(j:∀n,Lib.parseIntB 64 l≠.ok n)(h:K (.tup [.int .i64 (XQ l),.iface 298 .undef]) L):aoX 162 [.str l,.int .i64 10,.int .i64 64] L K :=
 dD Tryz.func162 rfl asq (λw0 S0 E w vs i f=>by
  simp only[VRL,VR]at f;obtain⟨_,_,rfl,rfl,_,_,rfl,rfl,_,_,rfl,rfl,rfl⟩:=f
  match hq:Lib.parseIntB 64 l with
  |.ok n=>exact absurd hq (j n)
  | .syntax =>
    obtain⟨x,b⟩:=adW i (g:=4) rfl;refine(Tryz.strconv_ParseInt_10_at64_syntax ⟨⟨l⟩⟩ (show l.length<=_ by omega) hq _ w b (.inr ⟨_,_,rfl⟩)).mono λe w' ⟨N,d,_,_,a⟩=>⟨_,d,?_,EP a⟩
    have c:XQ l=0:=(by simp[XQ,hq]);rw[c];simp[VR,VRL];exact⟨_,_,⟨rfl,rfl⟩,rfl,_,rfl,_,rfl⟩
  | .range =>
    obtain⟨x,b⟩:=adW i (g:=5) rfl;refine(Tryz.strconv_ParseInt_10_at64_range ⟨⟨l⟩⟩ (show l.length<=_ by omega) hq _ w b (.inr ⟨_,_,rfl⟩)).mono λe w' ⟨N,d,_,_,a⟩=>⟨_,d,?_,EP a⟩
    have c:XQ l=Lib.intSat 64 l:=(by simp[XQ,hq]);rw[c];simp[VR,VRL];exact⟨_,_,⟨rfl,rfl⟩,rfl,_,rfl,_,rfl⟩) h
theorem Vu(d:(l.length:Int)<=1100000)(h:K (.tup [.int .i64 (XQ l),.bool (tz l)]) L):aoX 108 [.str l] L K:=by
 replace h:=hid h;refine ab Sq (by simp[pk]) ?_;simp only[pk,ag];by_cases a:∃n,Lib.parseIntB 64 l=.ok n;obtain⟨n,a⟩:=a;have f:=hid (XB a);have g:=hid (show XQ l=n by simp[XQ,a]);have c:=hid (show tz l=decide (Lib.itoa n=l)by simp[tz,a]);replace a:=hid a;have kk1:=@asv _ _ _ _ (aiW d a.o);have kk2:=@asv _ _ _ _ (anZ f.o);refine wk ?_;refine aa ?_;have h:=h.o;rw[g.o,c.o]at h;exact h;have b:=hid (show ∀n,Lib.parseIntB 64 l≠.ok n from λn e=>a ⟨n,e⟩);have c:=hid (show tz l=false by unfold tz;split;rename_i n i;exact absurd ⟨n,i⟩ a;rfl)
 clear a;have kk1:=@asv _ _ _ _ (aiX d b.o);refine wk ?_;refine aa ?_;have h:=h.o;rw[c.o]at h;exact h
theorem Wj{n:Int}{L:List Blk}{K:aoY}(h:K (.bool false) L):aoX 171 [.int .i64 n] L K:=by replace h:=hid h;refine aoW N0 ?_;refine aa ?_;exact h.o
def ad4(m n:Int):Int:=if m<n then -1 else if n<m then 1 else 0
theorem alP{m n:Int}{L:List Blk}{K:aoY}(h:K (.int .i64 (ad4 m n)) L):aoX 117 [.int .i64 m,.int .i64 n] L K:=by replace h:=hid h;refine ab Fn (by simp[jp]) ?_;simp only[jp,ag];by_cases a:m<n;have e:=hid (show ad4 m n=-1 by simp[ad4,a]);have kk1:=@hid _ @Wj;refine wk ?_;refine aa ?_;have h:=h.o;rw[e.o]at h;exact h;by_cases b:n<m;have e:=hid (show ad4 m n=1 by simp[ad4,a,b]);have kk1:=@hid _ @Wj;refine wk ?_;refine aa ?_;have h:=h.o;rw[e.o]at h;exact h;have e:=hid (show ad4 m n=0 by simp[ad4,a,b]);have kk1:=@hid _ @Wj;refine wk ?_;refine aa ?_;have h:=h.o;rw[e.o]at h;exact h
theorem afn:gb 0=some ((List.range 256).map λc=>AV.int .u8 (Lib.firstT c:Int)):=asq
theorem aee:gb 1=some ((List.range 16).flatMap λi=>[AV.int .u8 (Lib.accLo i:Int),AV.int .u8 (Lib.accHi i:Int)]):=asq
theorem Wl{L:List Blk}(c:Rel w0 S0 E L w){g i:Nat}{l:List AV}{k:IntKind}{z:Int}(d:gb g=some l)(f:l[i]?=some (.int k z)):w.cell? ⟨g,i,none⟩=some (.int k z):=by have e:=ER d;obtain⟨v,h,b⟩:=(c.glob.env e).get (i:=i) (a:=.int k z) f;simp only[VR]at b;subst b;simpa using c.mem _ _ _ h
theorem agB{L:List Blk}(a:Rel w0 S0 E L w):Lib.Utf8Tabs 0 1 w:=by
 refine⟨λc d=>Wl a afn ?_,λi b=>⟨Wl a aee ?_,Wl a aee ?_⟩⟩;simp[d];have:∀i:_root_.Fin 16,((List.range 16).flatMap λi=>[AV.int .u8 (Lib.accLo i:Int),AV.int .u8 (Lib.accHi i:Int)])[2*i.val]?=some (.int .u8 (Lib.accLo i.val:Int)):=λi=>by
  match i with
  |⟨0,_⟩|⟨1,_⟩|⟨2,_⟩|⟨3,_⟩|⟨4,_⟩|⟨5,_⟩|⟨6,_⟩|⟨7,_⟩|⟨8,_⟩|⟨9,_⟩|⟨10,_⟩|⟨11,_⟩|⟨12,_⟩|⟨13,_⟩|⟨14,_⟩|⟨15,_⟩=>rfl
  |⟨n+16,h⟩=>omega
 exact this ⟨i,b⟩;have:∀i:_root_.Fin 16,((List.range 16).flatMap λi=>[AV.int .u8 (Lib.accLo i:Int),AV.int .u8 (Lib.accHi i:Int)])[2*i.val+1]?=some (.int .u8 (Lib.accHi i.val:Int)):=λi=>by
  match i with
  |⟨0,_⟩|⟨1,_⟩|⟨2,_⟩|⟨3,_⟩|⟨4,_⟩|⟨5,_⟩|⟨6,_⟩|⟨7,_⟩|⟨8,_⟩|⟨9,_⟩|⟨10,_⟩|⟨11,_⟩|⟨12,_⟩|⟨13,_⟩|⟨14,_⟩|⟨15,_⟩=>rfl
  |⟨n+16,h⟩=>omega
 exact this ⟨i,b⟩
theorem N6(f:l.length<=1100000)(h:K (.bool (Lib.validD l)) L):aoX 105 [.str l] L K :=
 dD Tryz.func105 rfl asq (λw0 S0 E w vs d a=>by simp only[VRL,VR]at a;obtain⟨_,_,rfl,rfl,rfl⟩:=a;exact(Any.utf8_ValidString Tryz.lays196 ⟨⟨l⟩⟩ w (show l.length<=_ by omega) (agB d)).mono λe w' ⟨c,b⟩=>⟨_,c,by simp[VR],EP b⟩) h
theorem rW{a b:List UInt8}{L:List Blk}{K:aoY}(h:K (.int .i64 (Lib.compareBytes a b)) L):aoX 118 [.str a,.str b] L K :=
 dD Tryz.func118 rfl asq (λw0 S0 E w vs g c=>by simp only[VRL,VR]at c;obtain⟨_,_,rfl,rfl,_,_,rfl,rfl,rfl⟩:=c;exact(Tryz.strings_Compare ⟨⟨a⟩⟩ ⟨⟨b⟩⟩ w).mono λe w' ⟨f,d⟩=>⟨_,f,by simp[VR],by subst d;exact EA.refl _⟩) h
theorem jS(h:K (.bool (Lib.hasPrefix a b)) L):aoX 115 [.str a,.str b] L K :=
 dD Tryz.func115 rfl asq (λw0 S0 E w vs g c=>by simp only[VRL,VR]at c;obtain⟨_,_,rfl,rfl,_,_,rfl,rfl,rfl⟩:=c;exact(Tryz.strings_HasPrefix ⟨⟨a⟩⟩ ⟨⟨b⟩⟩ w).mono λe w' ⟨f,d⟩=>⟨_,f,by simp[VR],by subst d;exact EA.refl _⟩) h
theorem jR(g:a.length<=1100000)(h:K (.bool (Lib.hasSuffix a b)) L):aoX 116 [.str a,.str b] L K :=
 dD Tryz.func116 rfl asq (λw0 S0 E w vs i c=>by simp only[VRL,VR]at c;obtain⟨_,_,rfl,rfl,_,_,rfl,rfl,rfl⟩:=c;exact(Tryz.strings_HasSuffix ⟨⟨a⟩⟩ ⟨⟨b⟩⟩ w (show a.length<=_ by omega)).mono λe w' ⟨f,d⟩=>⟨_,f,by simp[VR],by subst d;exact EA.refl _⟩) h
theorem nF(j:a.length<=1100000)(h:K (.int .i64 (Lib.index a b)) L):aoX 114 [.str a,.str b] L K :=
 dD Tryz.func114 rfl asq (λw0 S0 E w vs d c=>by simp only[VRL,VR]at c;obtain⟨_,_,rfl,rfl,_,_,rfl,rfl,rfl⟩:=c;obtain⟨z,f⟩:=d.glob.2 3 (by simp[Vs]);exact(Tryz.strings_Index ⟨⟨a⟩⟩ ⟨⟨b⟩⟩ z w (show a.length<_ by omega) (d.mem _ _ _ f)).mono λe w' ⟨i,g⟩=>⟨_,i,by simp[VR],by subst g;exact EA.refl _⟩) h
abbrev akj:List UInt8:=[84,82,85,69]
abbrev afD:List UInt8:=[70,65,76,83,69]
def ado(syn:Int)(v:List UInt8):Option (List UInt8):=
 if syn=1 then(if v=[]then none else if Lib.validD v=true then some (b9 v)else none)
 else if syn=2 then(if v=[]then none else if Lib.validD v=true then some v else none)
 else if syn=3 then(if WN v=true then some (b9 v)else none)
 else if syn=4 then(if tz v=true then some v else none)
 else if syn=5 then(if v=akj\/v=afD then some v else none)
 else if syn=6 then(if(adA v).2=0 then some (adA v).1 else none)
 else if syn=7 then some v
 else if syn=8 then(if Nt v=true then some v else none)
 else none
def dl(syn:Int)(v:List UInt8):Option (List UInt8):=if 4096<v.length then none else ado syn v
def kg:Option (List UInt8)->AV
 |some n=>.tup [.str n,.bool true]
 |none=>.tup [.str [],.bool false]
theorem iS(h:K (kg (dl syn v)) L):aoX 68 [.int .i64 syn,.str v] L K:=by
 unfold dl at h;refine ab Wp (by simp[wt]) ?_;simp only[wt,ag];by_cases i:4096<v.length;have x:(4096:Int)<(v.length:Int):=aso;rw[if_pos i]at h;replace h:=hid h;clear i;refine wk ?_;exact aa h.o;have x:¬(4096:Int)<(v.length:Int):=aso;rw[if_neg i]at h;have a:v.length<=1100000:=aso;have c:(v.length:Int)<=100000:=aso;have g:(v.length:Int)<=1100000:=aso;unfold ado at h;clear i;by_cases l:syn=1;subst l;rw[if_pos rfl]at h;by_cases d:v=[];rw[if_pos d]at h;replace h:=hid h;subst d;have kk1:=@asv _ _ _ _ (EF c);have kk2:=@asv _ _ _ _ (N6 a);refine wk ?_;exact aa h.o;rw[if_neg d]at h;cases hd:Lib.validD v with
 | true =>
   rw[hd,if_pos rfl]at h;replace h:=hid h;have kk1:=@asv _ _ _ _ (EF c);have kk2:=@asv _ _ _ _ (N6 a);refine wk ?_;exact aa h.o
 | false =>
   rw[hd,if_neg asp]at h;replace h:=hid h;have kk1:=@asv _ _ _ _ (EF c);have kk2:=@asv _ _ _ _ (N6 a);refine wk ?_;exact aa h.o
 rw[if_neg l]at h;by_cases q:syn=2;subst q;rw[if_pos rfl]at h;by_cases d:v=[];rw[if_pos d]at h;replace h:=hid h;have kk1:=@asv _ _ _ _ (N6 a);refine wk ?_;exact aa h.o;rw[if_neg d]at h;cases hd:Lib.validD v with
 | true =>
   rw[hd,if_pos rfl]at h;replace h:=hid h;have kk1:=@asv _ _ _ _ (N6 a);refine wk ?_;exact aa h.o
 | false =>
   rw[hd,if_neg asp]at h;replace h:=hid h;have kk1:=@asv _ _ _ _ (N6 a);refine wk ?_;exact aa h.o
 rw[if_neg q]at h;by_cases s:syn=3;subst s;rw[if_pos rfl]at h;replace h:=hid h;have kk1:=@asv _ _ _ _ (EF c);refine wk ?_;refine aju a (λe=>?_) (λk e=>?_);have b:=h.o;rw[if_pos e]at b;replace b:=hid b;refine asw ?_;exact aa b.o;have b:=h.o;rw[if_neg (by rw[e];simp)]at b;replace b:=hid b;have y:¬(k:Int)<0:=aso;refine asw ?_;exact aa b.o;rw[if_neg s]at h;by_cases r:syn=4;subst r;rw[if_pos rfl]at h;cases hd:tz v with
 | true =>
   rw[hd,if_pos rfl]at h;replace h:=hid h;have kk1:=@asv _ _ _ _ (Vu g);refine wk ?_;exact aa h.o
 | false =>
   rw[hd,if_neg asp]at h;replace h:=hid h;have kk1:=@asv _ _ _ _ (Vu g);refine wk ?_;exact aa h.o
 rw[if_neg r]at h;by_cases m:syn=5;subst m;rw[if_pos rfl]at h;by_cases f:v=akj;rw[if_pos (.inl f)]at h;replace h:=hid h;have z:(decide (v=[84,82,85,69]):Bool)=true:=decide_eq_true f;subst f;refine wk ?_;exact aa h.o;by_cases t2:v=afD;rw[if_pos (.inr t2)]at h;replace h:=hid h;subst t2;have t3:¬([70,65,76,83,69]:List UInt8)=[84,82,85,69]:=by decide
 clear f;refine wk ?_;exact aa h.o;rw[if_neg (λe=>e.elim f t2)]at h;replace h:=hid h;refine wk ?_;exact aa h.o;rw[if_neg m]at h;by_cases w:syn=6;subst w;rw[if_pos rfl]at h;obtain⟨⟨k,e⟩,j⟩:∃p,adA v=p:=⟨_,rfl⟩;rw[j]at h;simp only at h;by_cases u:e=0;subst u;rw[if_pos rfl]at h;replace h:=hid h;refine wk ?_;refine amn ?_;rw[j];simp only[kB];refine asw ?_;exact aa h.o;rw[if_neg u]at h;replace h:=hid h;refine wk ?_;refine amn ?_;rw[j];simp only[kB];refine asw ?_;exact aa h.o;rw[if_neg w]at h;by_cases t:syn=7;subst t;rw[if_pos rfl]at h;replace h:=hid h;refine wk ?_;exact aa h.o;rw[if_neg t]at h;by_cases n:syn=8;subst n;rw[if_pos rfl]at h;cases hd:Nt v with
 | true =>
   rw[hd,if_pos rfl]at h;replace h:=hid h;have kk1:=@asv _ _ _ _ (adr a);refine wk ?_;exact aa h.o
 | false =>
   rw[hd,if_neg asp]at h;replace h:=hid h;have kk1:=@asv _ _ _ _ (adr a);refine wk ?_;exact aa h.o
 rw[if_neg n]at h;replace h:=hid h;refine wk ?_;exact aa h.o
def aof(syn:Int)(x y:List UInt8):Int:=if syn=4 then ad4 (XQ x) (XQ y)else Lib.compareBytes x y
def tx(syn:Int)(a b:List UInt8):Option Int:=match dl syn a,dl syn b with
 |some x,some y=>if syn=5\/syn=6\/syn=7 then none else some (aof syn x y)
 |_,_=>none
def aeO:Option Int->AV
 |some c=>.tup [.int .i64 c,.bool true]
 |none=>.tup [.int .i64 0,.bool false]
theorem Wb{x:List UInt8}(h:dl syn v=some x):v.length<=4096:=by unfold dl at h;split at h;cases h;omega
theorem Zf{x:List UInt8}(h:dl 4 v=some x):x=v/\tz v=true:=by
 unfold dl at h;split at h;cases h;have e:ado 4 v=if tz v=true then some v else none:=rfl
 rw[e]at h;split at h;rename_i a;exact⟨(Option.some.inj h).symm,a⟩;cases h
theorem adg(h:K (aeO (tx syn a b)) L):aoX 75 [.int .i64 syn,.str a,.str b] L K:=by
 unfold tx at h;refine aoW VO ?_;refine iS ?_;rcases ha:dl syn a with _|x;rw[ha]at h;simp only[aeO]at h;replace h:=hid h;simp only[kg];refine asw ?_;refine iS ?_;rcases dl syn b with _|y;simp only[kg];refine asw ?_;exact aa h.o;simp only[kg];refine asw ?_;exact aa h.o;rw[ha]at h;simp only[kg];refine asw ?_;refine iS ?_;rcases hb:dl syn b with _|y;rw[hb]at h;simp only[aeO]at h;replace h:=hid h;simp only[kg];refine asw ?_;exact aa h.o;rw[hb]at h;simp only at h;simp only[kg];by_cases j:syn=5;rw[if_pos (.inl j)]at h;simp only[aeO]at h;replace h:=hid h;refine asw ?_;exact aa h.o;by_cases e:syn=6;rw[if_pos (.inr (.inl e))]at h;simp only[aeO]at h;replace h:=hid h;refine asw ?_;exact aa h.o;by_cases g:syn=7;rw[if_pos (.inr (.inr g))]at h;simp only[aeO]at h;replace h:=hid h;refine asw ?_;exact aa h.o;rw[if_neg aso]at h;simp only[aeO,aof]at h;by_cases h4:syn=4;subst h4;rw[if_pos rfl]at h;replace h:=hid h;obtain⟨d,_⟩:=Zf ha;obtain⟨c,_⟩:=Zf hb;have k:=Wb ha;have l:=Wb hb;have i:(x.length:Int)<=1100000:=by rw[d];omega
 have f:(y.length:Int)<=1100000:=by rw[c];omega
 clear ha hb d c;refine sk ?_;have kk1:=@asv _ _ _ _ (Vu i);have kk2:=@asv _ _ _ _ (Vu f);have kk3:=@hid _ @alP;refine wk ?_;exact aa h.o;rw[if_neg h4]at h;replace h:=hid h;clear ha hb;refine sk ?_;have kk1:=@hid _ @rW;refine wk ?_;exact aa h.o
theorem acs:∀a b:List UInt8,Lib.compareBytes a b=if a<b then -1 else if b<a then 1 else 0
 |[],[]=>by simp[Lib.compareBytes]
 |[],b::bs=>by simp[Lib.compareBytes]
 |a::xs,[]=>by simp[Lib.compareBytes]
 | a::xs,b::bs=>by
   rw[Lib.compareBytes,acs xs bs];simp only[List.cons_lt_cons_iff]
   grind
abbrev Typ:=List UInt8×Int×Bool×Bool
variable {ts:List Typ}{ty:Typ}
def gp:List Atr->List UInt8->List (List UInt8)
 |[],_=>[]
 |a::t,n=>if aj a.1=aj n then a.2 else gp t n
def rV(n:List UInt8)(vs:List (List UInt8)):Bool->List Atr->List Atr
 |done,[]=>if done=true then[]else[(n,vs)]
 |done,a::t=>(if done=false/\¬aj a.1<aj n then[(n,vs)]else[])++(if aj n≠aj a.1 then[a]else[])++rV n vs (done || !decide (aj a.1<aj n)) t
def gm(syn:Int)(v:List UInt8):List UInt8:=(dl syn v).getD []
def inM(syn:Int)(l:List (List UInt8))(n:List UInt8):Bool:=l.any λv=>decide (gm syn v=n)
def ju(syn:Int)(v:List UInt8):Bool->List (List UInt8)->List (List UInt8)
 |done,[]=>if done=true then[]else[v]
 |done,x::t=>(if done=false/\gm syn v<gm syn x then[v]else[])++x::ju syn v (done ||decide (gm syn v<gm syn x)) t
def ig(syn:Int)(single:Bool):List (List UInt8)->List (List UInt8)->List (List UInt8)×Int
 |l,[]=>if single=true/\1<l.length then([],19)else(l,0)
 | l,v::vs=>match dl syn v with
   |none=>([],21)
   |some n=>if inM syn l n=true then([],20)else ig syn single (ju syn v false l) vs
def gX(ts:List Typ)(n:List UInt8):Option Typ:=ts.find? λt=>decide (aj t.1=aj n)
def wo(ts:List Typ):List Atr->List Atr->List Atr×Int
 |out,[]=>(out,0)
 | out,a::t=>match gX ts a.1 with
   |none=>([],17)
   | some ty=>if a.2=[] then ([],19) else
     if(ig ty.2.1 ty.2.2.1 (gp out a.1) a.2).2≠0 then([],(ig ty.2.1 ty.2.2.1 (gp out a.1) a.2).2)
     else wo ts (rV ty.1 (ig ty.2.1 ty.2.2.1 (gp out a.1) a.2).1 (ig ty.2.1 ty.2.2.1 (gp out a.1) a.2).1.isEmpty out) t
section
variable {α:Type}(key:α->List UInt8)
def je(l:List α)(k:List UInt8):Nat:=(l.takeWhile λa=>decide (key a<k)).length
def mS(l:List α):Prop:=l.Pairwise λa b=>key a<key b
theorem acr(l:List α)(k:List UInt8):je key l k<=l.length:=by exact(List.takeWhile_sublist _).length_le
theorem rQ(a:α)(l:List α)(k:List UInt8):je key (a::l) k=if key a<k then je key l k+1 else 0:=by
 unfold je;rw[List.takeWhile_cons]
 grind
end
theorem Sc(syn:Int)(v:List UInt8):∀l,ju syn v true l=l
 |[]=>rfl
 |x::t=>by rw[ju,if_neg asp];simp[Sc syn v t]
theorem Zh(syn:Int)(v:List UInt8):∀l:List (List UInt8),inM syn l (gm syn v)=false->ju syn v false l=l.take (je (gm syn) l (gm syn v))++v::l.drop (je (gm syn) l (gm syn v))
 |[],_=>rfl
 | x::t,h=>by
   simp only[inM,arC,arm,decide_eq_false_iff_not]at h;rw[ju,rQ];by_cases a:gm syn x<gm syn v
   .have hx2:¬gm syn v<gm syn x:=λe=>aqH _ (List.lt_trans e a)
    rw[if_pos a,if_neg (λe=>hx2 e.2),decide_eq_false hx2];simp only[aq3,apx,aqD,arl,apH];rw[Zh syn v t (by simpa[inM]using h.2)]
   .have hx2:gm syn v<gm syn x:=by grind
    rw[if_neg a,if_pos ⟨rfl,hx2⟩,decide_eq_true hx2];simp[Sc]
abbrev gO(a:Atr):List UInt8:=aj a.1
theorem abH(n:List UInt8):∀l:List Atr,mS gO l->gp l n=match l[je gO l (aj n)]? with
  |some a=>if aj a.1=aj n then a.2 else[]
  |none=>[]
 |[],_=>rfl
 | a::t,h=>by
   obtain⟨k,i⟩:=aqs.1 h;rw[gp,rQ];by_cases d:gO a<aj n
   .have hne:¬aj a.1=aj n:=λe=>by grind
    rw[if_pos d,if_neg hne,abH n t i,ap1]
   .rw[if_neg d,apU];by_cases j:aj a.1=aj n
    .simp[*]
    .have hno:∀u:List Atr,(∀b∈u,gO a<gO b)->gp u n=[]:=λu=>by
      induction u with
      |nil=>intro _;rfl
      | cons b u ih =>
        intro f;rw[gp,if_neg,ih (λc g=>f c (by simp[g]))]
        grind
     simp_all
theorem aaX(n:List UInt8)(vs:List (List UInt8)):∀l:List Atr,(∀a∈l,aj n≠aj a.1)->rV n vs true l=l
 |[],_=>rfl
 |a::t,h=>by rw[rV,if_neg asp,if_pos (h a asp),aqQ,aaX n vs t (λb c=>h b (by simp[c]))];rfl
theorem afS(n:List UInt8)(vs:List (List UInt8)):∀l:List Atr,mS gO l->rV n vs false l=match l[je gO l (aj n)]? with
  |some a=>if aj a.1=aj n then l.set (je gO l (aj n)) (n,vs)else l.take (je gO l (aj n))++(n,vs)::l.drop (je gO l (aj n))
  |none=>l++[(n,vs)]
 |[],_=>rfl
 | a::t,h=>by
   obtain⟨j,g⟩:=aqs.1 h;rw[rV,rQ];by_cases c:gO a<aj n
   .have hx2:aj a.1<aj n:=c;have d:aj n≠aj a.1:=λe=>by grind
    rw[if_pos c,if_neg (λe=>e.2 hx2),if_pos d,decide_eq_true hx2,ap1];simp only[aqO,aq3,apx,aqr,aqD,arl,apH];rw[afS n vs t g]
    grind
   .have hx2:¬aj a.1<aj n:=c;rw[if_neg c,if_pos ⟨rfl,hx2⟩,decide_eq_false hx2,apU];have f:∀b∈t,aj n≠aj b.1:=λb i e=>by simp_all
    simp only[aru,arz,List.set_cons_zero,aqx,aq4,apx,apH];rw[aaX n vs t f]
    grind
theorem ac8{α:Type}(l:List α)(c:Nat)(v:α):(l.take c++v::l.drop c).Perm (v::l):=by refine List.perm_middle.trans ?_;simp
theorem abP{α:Type}{l:List α}{c:Nat}{v b:α}:b∈l.take c++v::l.drop c↔b=v\/b∈l:=by rw[(ac8 l c v).mem_iff,apn]
theorem Oc{α:Type}{key:α->List UInt8}{v:α}:∀{l:List α},mS key l->(∀x∈l,key x≠key v)->mS key (l.take (je key l (key v))++v::l.drop (je key l (key v)))
 |[],_,_=>by simp[mS]
 | a::t,h,hn=>by
   obtain⟨g,f⟩:=aqs.1 h;rw[rQ];by_cases d:key a<key v
   .rw[if_pos d];simp only[aqD,arl,apH];refine aqs.2 ⟨λb e=>?_,Oc f λx c=>hn x (by simp[c])⟩
    grind
   .rw[if_neg d];refine aqs.2 ⟨λb e=>?_,h⟩
    grind
theorem V4{m:List UInt8}(h:aj n=aj m):gX ts n=gX ts m:=by unfold gX;rw[h]
def InV(syn:Int)(l:List (List UInt8)):Prop:=mS (gm syn) l/\∀v∈l,(dl syn v).isSome=true
theorem agp{syn:Int}{a:Bool}:∀{vs l:List (List UInt8)},InV syn l->(ig syn a l vs).2=0->InV syn (ig syn a l vs).1
 | [],l,h,h0=>by
   rw[ig]at h0⊢
   grind
 | v::vs,l,h,h0=>by
   rw[ig]at h0⊢;rcases hv:dl syn v with _|n
   .simp_all
   .rw[hv]at h0;simp only at h0⊢;split
    .simp_all
    .rename_i hc;rw[if_neg hc]at h0;have d:gm syn v=n:=(by simp[gm,hv]);have b:inM syn l (gm syn v)=false:=(by rw[d];simpa using hc);refine agp ?_ h0;rw[Zh syn v l b];refine⟨Oc h.1 λx c e=>?_,λx c=>?_⟩
     .simp only[inM,aqA,decide_eq_true_eq]at b;simp_all
     .rcases abP.1 c with rfl|c
      .simp[*]
      .exact h.2 x c
def InA(ts:List Typ)(l:List Atr):Prop:=mS gO l/\∀a∈l,∃ty,gX ts a.1=some ty/\ty.1=a.1/\a.2≠[]/\InV ty.2.1 a.2/\(ty.2.2.1=true->a.2.length<=1)
theorem akJ{l:List Atr}(h:InA ts l)(e:gX ts n=some ty):InV ty.2.1 (gp l n):=by rw[abH n l h.1];rcases hg:l[je gO l (aj n)]? with _|a;exact⟨List.Pairwise.nil,λv b=>by cases b⟩;simp only;split;rename_i d;obtain⟨c,f,_,_,h4,_⟩:=h.2 a (apR hg);rw[V4 d,e]at f;simp_all;exact⟨List.Pairwise.nil,λv b=>by cases b⟩
theorem JT{α:Type}{key:α->List UInt8}{k:List UInt8}:∀{l:List α},mS key l->(∀a,l[je key l k]?=some a->key a≠k)->∀x∈l,key x≠k
 |[],_,_,_,c=>by cases c
 | a::t,h,hc,x,c=>by
   obtain⟨g,f⟩:=aqs.1 h;rw[rQ]at hc;by_cases d:key a<k
   .rw[if_pos d]at hc;rcases apn.1 c with rfl|c
    .grind
    .exact JT f (λb e=>hc b (by simpa using e)) x c
   grind
theorem agR{α:Type}{key:α->List UInt8}{l:List α}{c:Nat}{a x:α}(h:mS key l)(g:l[c]?=some a)(i:key x=key a):mS key (l.set c x):=by
 have e:(l.set c x).map key=l.map key:=by rw[List.map_set,i];obtain⟨b,rfl⟩:=aoZ.1 g;rw[<- List.getElem_map (f:=key) (h:=by simpa using b),List.set_getElem_self]
 have d:(l.map key).Pairwise (· < ·):=arX.2 h;rw[<- e]at d;exact arX.1 d
theorem akZ{l:List Atr}{vs:List (List UInt8)}(h:InA ts l)(q:gX ts n=some ty)(o:ty.1=n)(m:vs≠[])(p:InV ty.2.1 vs)(r:ty.2.2.1=true->vs.length<=1):InA ts (rV n vs false l):=by
 have j:∃d,gX ts n=some d/\d.1=n/\vs≠[]/\InV d.2.1 vs/\(d.2.2.1=true->vs.length<=1):=⟨ty,q,o,m,p,r⟩;rw[afS n vs l h.1];rcases hg:l[je gO l (aj n)]? with _|a;have f:=JT (k:=aj n) h.1 (λa i=>by rw[hg]at i;cases i);have s:je gO l (aj n)=l.length:=Nat.le_antisymm (acr _ _ _) (List.getElem?_eq_none_iff.1 hg);have e:l++[(n,vs)]=l.take (je gO l (gO (n,vs)))++(n,vs)::l.drop (je gO l (gO (n,vs))):=by simp[*]
 rw[e];refine⟨Oc h.1 f,λb c=>?_⟩;rcases abP.1 c with rfl|c;omega;exact h.2 b c;simp only;split;rename_i g;refine⟨agR h.1 hg g.symm,λb c=>?_⟩;rcases asd c with c|rfl;exact h.2 b c;omega;rename_i g;have f:=JT (k:=aj n) h.1 (λb c=>by rw[hg]at c;cases c;exact g);refine⟨Oc (key:=gO) (v:=(n,vs)) h.1 f,λb c=>?_⟩;rcases abP.1 c with rfl|c;omega;exact h.2 b c
theorem ajb(syn:Int)(v:List UInt8)(l:List (List UInt8)):ju syn v false l≠[]:=by rcases l with _|⟨x,t⟩;simp[ju];simp[ju]
theorem ago{syn:Int}{a:Bool}:∀{vs l:List (List UInt8)},l≠[]\/vs≠[]->(ig syn a l vs).2=0->(ig syn a l vs).1≠[]
 | [],l,h,h0=>by
   rw[ig]at h0⊢
   grind
 | v::vs,l,h,h0=>by
   rw[ig]at h0⊢;rcases hv:dl syn v with _|n
   .simp_all
   .rw[hv]at h0;simp only at h0⊢;split
    .simp_all
    .rename_i hc;rw[if_neg hc]at h0;exact ago (.inl (ajb syn v l)) h0
theorem XM{syn:Int}{a:Bool}:∀{vs l:List (List UInt8)},(ig syn a l vs).2=0->a=true->(ig syn a l vs).1.length<=1
 | [],l,h0,hs=>by
   rw[ig]at h0⊢
   grind
 | v::vs,l,h0,hs=>by
   rw[ig]at h0⊢;rcases hv:dl syn v with _|n
   .simp
   .rw[hv]at h0;simp only at h0⊢;split
    .simp
    .rename_i hc;rw[if_neg hc]at h0;exact XM h0 hs
theorem Oa(h:gX ts n=some ty):ty∈ts/\aj ty.1=aj n:=by
 unfold gX at h
 grind
theorem agb{ts:List Typ}:∀{l out:List Atr},InA ts out->(wo ts out l).2=0->InA ts (wo ts out l).1
 |[],out,h,_=>h
 | a::t,out,h,h0=>by
   rw[wo]at h0⊢;rcases ht:gX ts a.1 with _|ty
   .simp_all
   .rw[ht]at h0;simp only at h0⊢;split
    .simp_all
    .rename_i hc;rw[if_neg hc]at h0;split
     .simp_all
     .rename_i hd;rw[if_neg hd]at h0;simp only[ne_eq,arD]at hd;have b:=ago (l:=gp out a.1) (.inr hc) hd;have d:(ig ty.2.1 ty.2.2.1 (gp out a.1) a.2).1.isEmpty=false:=(by simpa using b);rw[d]at h0⊢;have c:=Oa ht;exact agb (akZ h (by rw[V4 c.2];exact ht) rfl b (agp (akJ h ht) hd) (XM hd)) h0
set_option maxHeartbeats 8000000
set_option maxRecDepth 100000
theorem afr{α:Type}{key:α->List UInt8}{k:List UInt8}:∀{l:List α},mS key l->∀(h:Nat) (b:h<l.length),(key l[h]<k↔h<je key l k)
 | a::t,hr,h,b=>by
   obtain⟨e,c⟩:=aqs.1 hr;rw[rQ];by_cases d:key a<k
   .rcases h with _|h
    .simp[*]
    .have:=afr (k:=k) c h (by simpa using b);simp[*]
   grind
theorem ahG{α:Type}{key:α->List UInt8}{k:List UInt8}{l:List α}(c:mS key l):(l.any λa=>decide (key a=k))=match l[je key l k]? with
  |some a=>decide (key a=k)
  |none=>false:=by
 cases h:l[je key l k]? with
 | none =>
   simp only[aqA,decide_eq_true_eq];exact JT c (λa d=>by rw[h]at d;cases d)
 | some a =>
   simp only;by_cases f:key a=k
   .grind
   .rw[decide_eq_false f];simp only[aqA,decide_eq_true_eq];exact JT c (λb e=>by rw[h]at e;cases e;exact f)
theorem ahN{a:Bool}{l:List (List UInt8)}{vs:List (List UInt8)}(b:(ig syn a l (v::vs)).2=0):
  (dl syn v).isSome=true/\inM syn l (gm syn v)=false/\ig syn a l (v::vs)=ig syn a (ju syn v false l) vs:=by
 rw[ig]at b⊢;rcases hv:dl syn v with _|n;simp_all;have c:gm syn v=n:=by simp[gm,hv]
 grind
theorem aja{l:List (List UInt8)}(h:inM syn l (gm syn v)=false):(ju syn v false l).length=l.length+1:=by rw[Zh syn v l h,(ac8 _ _ _).length_eq,apb]
theorem aak{syn:Int}{a:Bool}:∀{vs l:List (List UInt8)},(ig syn a l vs).2=0->(ig syn a l vs).1.length=l.length+vs.length
 | [],l,h0=>by
   rw[ig]at h0⊢
   grind
 |v::vs,l,h0=>by obtain⟨d,b,c⟩:=ahN h0;rw[c]at h0⊢;rw[aak h0,aja b,apb];omega
theorem amU(ts:List Typ):InA ts []:=⟨List.Pairwise.nil,λa b=>by cases b⟩
variable {L:List Blk}{K:aoY}
def JF(l:List UInt8):Bool:=l.any λc=>c != 32
def Tf(t:List UInt8)(k:Nat):List UInt8:=if JF (t.drop k)=true then cN (t.take k)else d8 (cN (t.take k))
theorem abp{t:List UInt8}{k:Nat}(h:k<t.length):t.drop k=t.getD k 0::t.drop (k+1):=by rw[apw h,apo,ao8 h];rfl
theorem Zt(c:UInt8)(l:List UInt8):JF (c::l)=(c != 32 ||JF l):=rfl
theorem jP(b:List UInt8)(c:UInt8):d8 (b++[c])=if c=32 then b else b++[c]:=by simp[d8]
theorem Zn(t:List UInt8):∀k,k<=t.length->cN (t.take k)≠[]->(JI (cN (t.take k))=true↔t.getD (k-1) 0=32)
 |0,_,h=>by simp[cN]at h
 | k+1,hk,h=>by
   have a:=Zn t k aso;rw[EG (show k<t.length by omega)]at h⊢;rw[show k+1-1=k by omega];unfold bf at h⊢;split
   .rename_i e;exact⟨λ_=>e.1,λ_=>e.2⟩
   .simp[JI]
theorem agY{t:List UInt8}{k:Nat}(h:k<t.length):Tf t (k+1) =
  if JF (t.drop k)=false\/(t.getD k 0=32/\(Tf t k=[]\/t.getD (k-1) 0=32))then Tf t k else Tf t k++[t.getD k 0]:=by
 have m:=abp h;have f:=Zn t k aso;unfold Tf;rw[EG h,m,Zt];obtain⟨c,j⟩:=aoT (t.getD k 0);obtain⟨p,l⟩:=aoT (cN (t.take k));rw[j];rw[l]at f⊢;have o:p=[]->JI p=true:=λe=>by rw[e];rfl
 by_cases a:c=32;subst a;by_cases g:JF (t.drop (k+1))=true;simp only[g,bne_self_eq_false,aqg,if_true,bf,true_and,aqm,false_or];by_cases b:p=[];simp[b,JI];simp[b,f b];have d:JF (t.drop (k+1))=false:=by simpa using g
 simp only[d,bne_self_eq_false,aqg,apj,if_false,true_or,if_true];unfold bf;split;rfl;rename_i e;rw[jP,if_pos rfl];unfold d8;rw[if_neg];intro n;exact e ⟨rfl,by simp[JI,n]⟩;have i:(c != 32)=true:=by simpa using a
 simp only[i,aqQ,if_true,a,false_and,or_false,aqm,if_false];have:bf p c=p++[c]:=by rw[bf,if_neg λe=>a e.1]
 rw[this,jP,if_neg a];split<;>rfl
theorem agX(t:List UInt8):Tf t 0=[]:=by unfold Tf;split<;>simp[cN,d8]
theorem aiN(t:List UInt8):Tf t t.length=d8 (cN t):=by simp[Tf,JF]
theorem aiM(t:List UInt8)(k:Nat):(Tf t k).length<=k:=by have:=rN t k;unfold Tf;split;exact this;unfold d8;split;simp;omega;exact this
theorem EE{s:List UInt8}(M:(s.length:Int)<=100000)(h:K (.str (b9 s)) L):aoX 135 [.str s] L K:=by
 replace h:=hid h;refine ab Yd (by simp[Ff]) ?_;simp only[Ff,ag];obtain⟨t,O⟩:=aoT (aj s);have T:(t.length:Int)<=100000:=by rw[<- O];simpa[aj]using M
 have B:=hid (show Tf t t.length=b9 s by rw[aiN,b9,O]);have kk1:=@asv _ _ _ _ (nq M);refine wk ?_;refine bR (l:=[]) (n:=0) 4 1 rfl (aps 1).symm ?_;refine ak (λn T' L'=>∃(k:Nat) (b:List UInt8) (v:List AV) (m:Nat),n=t.length-k/\k<=t.length/\b=Tf t k/\v=u8s b/\m=b.length/\T'=[(5,.int .i64 (k:Int)),(4,.gsl v m L.length 1),(3,.str t),(2,.str [])]/\L'=L++[.spare m 1]) ass ⟨0,[],[],0,rfl,ao2 _,(agX t).symm,rfl,rfl,rfl,rfl⟩ ?_;rintro _ _ _ ⟨k,b,v,m,rfl,Y,z,rfl,rfl,rfl,rfl⟩;replace z:=hid z;by_cases q:k<t.length
 .have X:(k:Int)<(t.length:Int):=aso;have h2:=aoV k aso;refine wk ?_;have U:b.length<=k:=(by rw[z.o];exact aiM t k);have R:(u8s b).length=b.length:=(by simp[u8s]);have d:=hid (agY q);refine ak (λn T' L'=>∃(j:Nat) (a:Bool),n=t.length-j/\j<=t.length/\(a=true->JF (t.drop k)=true)/\(a=false->JF (t.drop k)=JF (t.drop j))/\T'=[(7,.int .i64 (j:Int)),(6,.bool a),(5,.int .i64 (k:Int)),(4,.gsl (u8s b) b.length L.length 1),(3,.str t),(2,.str [])]/\L'=L++[.spare b.length 1]) ass ⟨k,false,rfl,aso,asp,asp,rfl,rfl⟩ ?_;rintro _ _ _ ⟨j,a,rfl,Z,w,r,rfl,rfl⟩;replace w:=hid w;replace r:=hid r;obtain⟨c,I⟩:=aoT (t.getD k 0);rw[I]at d;have W:((t[k]?.getD 0))=c:=(by rw[<- I,apo]);cases a;by_cases A:j<t.length;have g1:(j:Int)<(t.length:Int):=aso;have g2:=aoV j aso;have J:=hid (abp A);obtain⟨x,V⟩:=aoT (t.getD j 0);rw[V]at J;refine wk ?_;have C:(x != 32) = !decide ((x.toNat:Int)=32):=by have:(x.toNat:Int)=32↔x=32:=⟨λh=>aqS.1 (by have:(32:UInt8).toNat=32:=rfl;omega),λh=>by rw[h];rfl⟩;by_cases h:x=32<;>simp[h,this]
  have y:=r.o rfl;rw[J.o,Zt,C]at y;refine ast aso asr ⟨j+1, !decide ((x.toNat:Int)=32),rfl,A,λe=>by rw[y,e];rfl,λe=>by rw[y,e];rfl,rfl,rfl⟩;have g1:¬(j:Int)<(t.length:Int):=aso;have F:JF (t.drop k)=false:=(by rw[r.o rfl,aqE aso];rfl);replace d:=hid (show Tf t (k+1)=b by rw[d.o,if_pos (.inl F),z.o]);refine wk ?_;exact ast aso asr ⟨k+1,b,_,b.length,rfl,q,d.o.symm,rfl,rfl,rfl,rfl⟩
  .have F:JF (t.drop k)=true:=w.o rfl;have g:=d.o;rw[F]at g;simp only[aqm,false_or,<- z.o]at g;replace g:=hid g;have H:b.length≠0->(1:Int)<=(k:Int):=λh=>aso
   replace H:=hid H;have E:=hid λh:1<=k=>show IntKind.i64.wrap ((k:Int)-1)=(k:Int)-1 from ae aso aso
   have i:∀x:UInt8,(x.toNat:Int)=32↔x=32:=λx=>⟨λh=>aqS.1 (by have:(32:UInt8).toNat=32:=rfl;omega),λh=>by rw[h];rfl⟩
   replace i:=hid i
   repeat' first
    |refine bH ?_
    | (first|refine bv asq ?_|refine aP asq ?_|refine aS ?_|refine cT ?_|refine bJ (fun _=>?_)|refine aH ?_|refine bz ?_)
      refine sm ?_
    | (first|refine bp asq ?_|refine bm ?_|refine aR ?_|refine bw ?_|refine bP (aG ?_))
      refine sl ?_
    |exact bL
    |first|apply bM|apply bq|apply bN|apply br|apply bO|apply bu
    |refine aV ?_
    |refine aQ ?_
    |first|refine aT rfl ?_|refine aU rfl ?_|refine aB rfl ?_ ?_|refine aX rfl (λ_=>?_) (λ_=>?_)|refine aW rfl (λ_=>?_) (λ_=>?_)
    |((first|refine aA (λ_=>?_) (λ_=>?_)|refine aE (λ_=>?_) (λ_=>?_))<;>try refine sm ?_)
    |refine And.intro trivial ?_
    |refine And.intro aso ?_
    |refine be rfl (λ_=>?_) (λ_=>?_)
    |refine And.intro ?_ ?_
   rename_i S;rw[E.o aso];omega;rename_i S;rw[E.o aso];omega;rename_i D;have f:c=32/\(b=[]\/t.getD (k-1) 0=32):=by refine⟨(i.o c).1 D.1,?_⟩;rcases D.2 with e|e;exact .inl (apK.1 aso);by_cases p:b=[];exact .inl p;have u:1<=k:=(by have:=apQ.2 p;omega);rw[E.o u,show((k:Int)-1).toNat=k-1 by omega]at e;exact .inr ((i.o _).1 e)
   exact ast aso asr ⟨k+1,b,_,b.length,rfl,q,by rw[g.o,if_pos f],rfl,rfl,rfl,rfl⟩;rename_i D;have f:¬(c=32/\(b=[]\/t.getD (k-1) 0=32)):=λ⟨N,P⟩=>D (by refine⟨(i.o c).2 N,?_⟩;by_cases p:b=[];exact .inl (by rw[p];rfl);have u:1<=k:=(by have:=apQ.2 p;omega);rcases P with e|e;exact absurd e p;refine .inr ?_;rw[E.o u,show((k:Int)-1).toNat=k-1 by omega];exact(i.o _).2 e)
   rw[show u8s b++[AV.int IntKind.u8 (c.toNat:Int)]=u8s (b++[c])by simp[u8s]];exact ast aso asr ⟨k+1,b++[c],_,b.length+1,rfl,q,by rw[g.o,if_neg f],rfl,asp,rfl,rfl⟩
 have G:k=t.length:=aso;subst G;have X:¬(t.length:Int)<(t.length:Int):=aso;have N:=ku b;have P:=jq b;have Q:=hid (show b=b9 s by rw[z.o,B.o]);refine wk ?_;refine ac rfl ?_;rw[Q.o];exact h.o
end Go.Proofs.YtdnfjhflkkpokaaGreatDoor.Av
