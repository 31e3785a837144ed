/- Joined texts of the walk, made small by a program. -/
import Derived.Test.YtobihfefmlgaoaaMk6
import Derived.Test.YtobihfefmlgaoaaMk5
import Derived.Test.YtobihfefmlgaoaaMk4
import Derived.Shelf.Sort.Plain
import Derived.Test.YtobihfefmlgaoaaRows
import Derived.KernelRfl
import Derived.Sort.Walk0
import Derived.Shelf.Strings.Builder1
import Derived.Shelf.Strings.Builder2
import Derived.Shelf.Strings.OnBuilder
import Derived.Shelf.Small.Bits
import Derived.Shelf.Small.Strs
import Derived.Shelf.Strings.BuilderF
import Derived.Shelf.Strings.BuilderK
import Derived.Shelf.Strings.Builder2Cap
import Derived.Shelf.Strconv.Itoa0
import Derived.Shelf.Strings.Search1
import Derived.Shelf.Strings.BuilderCap
import Derived.Shelf.Slices.Equal
import Derived.Ground.Names2Prog
import Derived.Shelf.Slices.Clone
import Derived.Shelf.Slices.In.SortNone
import Derived.Shelf.Slices.Empties2
import Derived.Ground.SlgnProg
import Derived.Shelf.SlicesE.Clone
import Derived.Ground.SlsfProg
import Derived.Shelf.SlSortCmp.Insertion
import Derived.Shelf.SlSortCmp.SiftDown1
import Derived.Shelf.SlSortCmp.HeapSort1
import Derived.Shelf.SlSortCmp.Insertion1
import Derived.Shelf.SlSortCmp.Median1
import Derived.Shelf.SlSortCmp.Pivot1
import Derived.Shelf.SlSortCmp.ReverseRange1
import Derived.Shelf.SlSortCmp.PartialInsertion1
import Derived.Shelf.SlSortCmp.PartitionEqual1
import Derived.Shelf.SlSortCmp.Partition1
import Derived.Shelf.SlSortCmp.Pdq1
import Derived.Shelf.SlSortCmp.Whole1
import Derived.Shelf.SlSortCmp.NoneTotal
import Derived.Shelf.Spec.SlicesGrow
import Derived.Ground.Names8Prog
import Derived.Test.YtobihfefmlgaoaaProg
set_option linter.unusedSimpArgs false
set_option linter.unusedVariables false
namespace Go.Proofs.Ytobihfefmlgaoaa.Av
open Go Go.Sort
variable {L:List Blk} {K:Fw}
abbrev am (xs:List (List UInt8)):List AV:=xs.map AV.str
theorem qq {xs:List (List UInt8)} {sep:List UInt8} {cap:Option Nat} (hn:xs.length<=1100000) (hl:(Lib.join xs sep).length<=140737488355328) (h:K (.str (Lib.join xs sep)) L) :
  Fv 37 [.sl (am xs) xs.length cap,.str sep] L K :=
 jt Try.func37 rfl (by kernel_rfl) (fun w0 S0 E w vs hR hv=>by
  simp only [VRL,VR] at hv;obtain ⟨_,_,rfl,⟨p,c,rfl,hle,_,hp⟩,_,_,rfl,rfl,rfl⟩:=hv;by_cases hx:xs=[]
  ·subst hx;exact (Try.strings_Join_none p c ⟨⟨sep⟩⟩ w).mono fun e w' ⟨he,hw⟩=>⟨_,he,by simp [VR,Lib.join],by subst hw;exact tY.refl _⟩
  ·rcases hp with ⟨e0,_⟩|⟨b,o,rfl,hcells⟩
   ·exact absurd (F8.1 e0) hx
   ·have hmem:∀ (j:Nat) x,(xs.map fun s=>(⟨⟨s⟩⟩:ByteArray))[j]?=some x->w.cell? ⟨b,o+j,none⟩=some (.string x):=fun j x hj=>by
     rw [GA] at hj;rcases hxs:xs[j]? with _|s
     ·rw [hxs] at hj;cases hj
     ·rw [hxs] at hj;simp only [FK,Fy] at hj;subst hj;obtain ⟨v,g1,g2⟩:=hcells.get (i:=j) (a:=.str s) (by rw [GA,hxs];rfl);simp only [VR] at g2;subst g2;exact hR.mem _ _ _ g1
    have hb:b<w.heap.size:=by
     have hx0:0<xs.length:=Gn.2 hx;have h0:=hmem 0 ⟨⟨xs[0]⟩⟩ (by rw [GA,FN hx0];rfl);rcases FV b w.heap.size with g|g
     ·exact g
     ·simp [World.cell?,Hu g] at h0
    have hmm:(xs.map fun s=>(⟨⟨s⟩⟩:ByteArray)).map (·.data.toList)=xs:=by rw [FR];exact List.map_id'' (fun _=>rfl) xs
    have key:=Try.strings_Join b o c (xs.map fun s=>(⟨⟨s⟩⟩:ByteArray)) ⟨⟨sep⟩⟩ w hmem hb (by rw [FS];omega) (by rw [FS];exact hle) (by rw [hmm];exact hl);rw [hmm] at key;simp only [FS] at key;exact key.mono fun e w' ⟨he,hbel⟩=>⟨_,he,by simp [VR],⟨fun b hb=>hbel.block b hb,hbel.size,hbel.os,hbel.tape,hbel.output⟩⟩) h
theorem Rel.putStrs {w0:World} {S0:SB} {E:Env} {L:List Blk} {w:World} (h:Rel w0 S0 E L w) {i:Nat} {xs d:List (List UInt8)} {rest:List AV} {c:Loc} (hi:L[i]?=some (.cells (am xs++rest))) (hc:E.loc i=some c) (hd:d.length=xs.length) (q:Nat) :
  Rel w0 S0 E (L.set i (.cells (am d++rest))) (putRow encStr (Sort.ahead w q) c.blk c.off d.toArray):=by
 obtain ⟨c',cs,ty,fr,h1,h2,h3,h4,h5,h6⟩:=h.blk i _ hi;rw [hc] at h1;cases h1;have hlt:c.blk<w.heap.size:=(F1.1 h2).1;have e1:(putRow encStr (Sort.ahead w q) c.blk c.off d.toArray).heap[c.blk]?=some (.cells (putCells encStr c.off d.toArray cs) ty fr):=by
  simp [putRow,mapBlock,Sort.ahead,G3,h2,onCells]
 have hlen:(am xs++rest).length=xs.length+rest.length:=by simp
 refine h.turn (k':=.cells (am d++rest)) hi rfl hc (by simp) (fun b hb=>?_) rfl rfl rfl ⟨c,_,ty,fr,hc,e1,by simp [putCells,h3],?_,fun j a ha=>?_,h6⟩ (fun _ _ e=>by cases e)
 ·have:c.blk≠b:=fun e=>hb e.symm
  simp [putRow,mapBlock,Sort.ahead,G3,this]
 ·rw [hlen] at h4;simp only [FP,FS,hd];omega
 ·rw [hlen] at h4;have hj:j<d.length+rest.length:=by
   have:=(Fx.1 ha).1;simpa using this
  have hcs:c.off+j<cs.size:=by omega
  have ep:(putCells encStr c.off d.toArray cs)[c.off+j]?=some (if c.off<=c.off+j/\c.off+j<c.off+d.length then encStr (d.toArray[c.off+j - c.off]!) else cs[c.off+j]):=by
   simp [putCells,hcs]
  by_cases hjd:j<d.length
  ·have ea:a=.str d[j]:=by
    rw [FC (by simpa using hjd)] at ha;simpa [hjd] using ha.symm
   subst ea;refine ⟨_,ep,?_⟩;rw [if_pos (by omega),show c.off+j - c.off=j by omega];simp [VR,encStr,hjd]
  ·have ha':(am xs++rest)[j]?=some a:=by
    rw [FJ (by simp;omega)] at ha ⊢;simpa [hd] using ha
   obtain ⟨v,g1,g2⟩:=h5 j a ha';refine ⟨v,?_,g2⟩;rw [ep,if_neg (by omega),<- g1];simp [hcs]
theorem su {w0:World} {S0:SB} {E:Env} {L:List Blk} {w:World} (h:Rel w0 S0 E L w) {i:Nat} {xs:List (List UInt8)} {rest:List AV} {c:Loc} (hi:L[i]?=some (.cells (am xs++rest))) (hc:E.loc i=some c) :
  Holds encStr w c.blk c.off xs.toArray/\c.blk<w.heap.size:=by
 obtain ⟨c',cs,ty,fr,h1,h2,h3,h4,h5,h6⟩:=h.blk i _ hi;rw [hc] at h1;cases h1;refine ⟨fun j hj=>?_,(F1.1 h2).1⟩;have hj':j<xs.length:=by simpa using hj
 obtain ⟨v,g1,g2⟩:=h5 j (.str xs[j]) (by rw [FC (by simpa using hj')];simp [hj']);simp only [VR] at g2;subst g2;refine ⟨by simp [World.cell?,encStr,h2,g1,hj'],?_⟩;have h7:=h6 (c.off+j) (by omega) (by simp only [FP,FS] at h4;omega);simp only [World.frozen?,h2];obtain ⟨f1,f2⟩:=fr;simp only at h7;simp only [HU,decide_eq_false_iff_not];omega
theorem ef {P:Program} {f:FuncId} {fn:Func} (hf:P.funcs[f]?=some fn) (hb:fn.body.isSome=true) (hn:(fn.name == "runtime.NumGoroutine")=false) (args:Array Value) (w:World):(callFunc f args).run P w=.ok (.enter f args) w:=by
 simp only [callFunc,FA,run_program,FB,hf,hn];cases h:fn.body with
 | none=>simp [h] at hb
 | some c=>simp
def cd (xs:List (List UInt8)):List (List UInt8):=xs.mergeSort fun x y=>decide (x<=y)
theorem CK {xs:List (List UInt8)} {i:Nat} {cp:Option Nat} {rest:List AV} (hx:xs≠[]) (hn:xs.length<=1100000) (hL:L[i]?=some (.cells (am xs++rest))) (h:K (.tup []) (L.set i (.cells (am (cd xs)++rest)))) :
  Fv 45 [.lsl i 0 xs.length cp 1] L K:=fun w0 S0 E w vs hR hv=>by
 simp only [VRL,VR] at hv;obtain ⟨_,_,rfl,⟨c,rc,d,hc,rfl,hd,hle,_,_⟩,rfl⟩:=hv;have hpos:0<xs.length:=Gn.2 hx;have hd':d=c.off:=by have:=hd (by omega);omega
 subst hd';obtain ⟨hH,hlt⟩:=su hR hL hc;refine .inl ⟨ef Try.func45 rfl (by kernel_rfl) _ _,(Try.slices_Sort_string c.blk c.off rc xs w hH hlt (by omega)).mono ?_⟩;rintro e w' ⟨rfl,q,os,rfl⟩;have r1:=hR.putStrs hL hc (d:=cd xs) (by simp [cd]) q;refine ⟨E,_,_,_,rfl,.refl E,h,by simp [VR,VRL],r1.grown ?_⟩;exact ⟨fun b hb=>HQ hb,by simp [grow],rfl,rfl,rfl⟩
theorem zS {cap:Option Nat} (h:K (.tup []) L):Fv 45 [.sl [] 0 cap] L K :=
 jt Try.func45 rfl (by kernel_rfl) (fun w0 S0 E w vs hR hv=>by
  simp only [VRL,VR] at hv;obtain ⟨_,_,rfl,⟨p,c,rfl,_⟩,rfl⟩:=hv;exact (Try.slices_Sort_string_none p c w).mono fun e w' ⟨he,hw⟩=>⟨_,he,by simp [VR,VRL],by subst hw;exact tY.refl _⟩) h
theorem C1 {xs:List (List UInt8)} {sep:List UInt8} {i:Nat} {cp:Option Nat} (hx:xs≠[]) (hn:xs.length<=1100000) (hl:(Lib.join xs sep).length<=140737488355328) (hL:L[i]?=some (.cells (am xs))) (h:K (.str (Lib.join xs sep)) L) :
  Fv 37 [.lsl i 0 xs.length cp 1,.str sep] L K:=fun w0 S0 E w vs hR hv=>by
 simp only [VRL,VR] at hv;obtain ⟨_,_,rfl,⟨c,rc,d,hc,rfl,hd,hle,_,_⟩,_,_,rfl,rfl,rfl⟩:=hv;have hpos:0<xs.length:=Gn.2 hx;have hd':d=c.off:=by have:=hd (by omega);omega
 subst hd';obtain ⟨hH,hlt⟩:=su (rest:=[]) hR (by simpa using hL) hc;have hmem:∀ (j:Nat) x,(xs.map fun s=>(⟨⟨s⟩⟩:ByteArray))[j]?=some x->w.cell? ⟨c.blk,c.off+j,none⟩=some (.string x):=fun j x hj=>by
  have hjl:j<xs.length:=by have:=(Fx.1 hj).1;simpa using this
  have e:=(hH j (by simpa using hjl)).1;rw [GA,FN hjl] at hj;simp only [FK,Fy] at hj;subst hj;rw [e];simp [encStr,hjl]
 have hmm:(xs.map fun s=>(⟨⟨s⟩⟩:ByteArray)).map (·.data.toList)=xs:=by rw [FR];exact List.map_id'' (fun _=>rfl) xs
 have key:=Try.strings_Join c.blk c.off rc (xs.map fun s=>(⟨⟨s⟩⟩:ByteArray)) ⟨⟨sep⟩⟩ w hmem hlt (by rw [FS];omega) (by rw [FS];exact hle) (by rw [hmm];exact hl);rw [hmm] at key;simp only [FS] at key;refine .inl ⟨ef Try.func37 rfl (by kernel_rfl) _ _,key.mono ?_⟩;rintro e w' ⟨rfl,hbel⟩;exact ⟨E,_,_,_,rfl,.refl E,h,by simp [VR],hR.grown ⟨fun b hb=>hbel.block b hb,hbel.size,hbel.os,hbel.tape,hbel.output⟩⟩
end Go.Proofs.Ytobihfefmlgaoaa.Av
set_option maxRecDepth 100000
namespace Go.Proofs.Ytobihfefmlgaoaa.Av
open Go
def rg:LSO:=[A3 4]
def rf:LSO:=[Ai 5]
def re:LSO:=[Aa 11 0,Af 12 11,Ad 13 0]
def rd:LSO:=[Ap 14 13 12]
def rb:LSO:=[An 15 1 11 13,Ab 16 1 15,Aa 7 16]
def ra:LSO:=[Ai 8]
def q9:LSO:=[Aa 17 7,Af 18 17,Ad 19 0]
def q8:LSO:=[Ap 20 19 18]
def q0:LSO:=[An 21 2 17 19,A7 22 2 21,AX 10,Az 2 10 22]
def qZ:LSO:=[Aa 23 1]
def pE:List (af×Kd) :=
 [Al 24 0 10,Aj 25 1 24 0 0,A8 26 42 25 0 0,Al 27 1 10,Aj 28 1 27 0 0]
def nX:List af :=
 [⟨(some 29),(.call 43 [(tm 28)]),none⟩,⟨(some 30),(.build [(.str []),(.str [])] [(0,(1,(tm 26))),(1,(1,(tm 29)))]),none⟩,⟨none,(.store 2 (tm 10) (tm 30)),none⟩]
def pD:List (af×Kd) :=
 [Ao 31 8,Al 32 0 10,Aj 33 1 32 0 0,od 34 (.bin .add (tm 33) (.av (.str [61]))) .pure,Al 35 1 10,Aj 36 1 35 0 0,A8 37 44 36 0 0,od 38 (.bin .add (tm 34) (tm 37)) .pure,
 od 39 (.bslice false 1 1 [(.str [])] [(0,(1,(tm 38)))]) (.read 0 0)]
def nW:List af :=
 [⟨(some 40),(.app 2 1 16 [(.str [])] (tm 31) (tm 39)),none⟩,⟨(some 8),(.mv (tm 40)),none⟩]
def pC:LSO:=[Am 41 19 1,Aa 19 41]
def pB:LSO:=[Aa 42 1]
def pA:LSO:=[Aa 43 8,Ah 44 45 43]
def pw:LSO:=[Aa 45 5,Aa 46 8,o1 47 (.call 37 [(tm 46),(.av (.str [43]))]),AO 48 47,o1 49 (.app 1 1 16 [(.str [])] (tm 45) (tm 48)),Aa 5 49]
def pu:LSO:=[Am 50 13 1,Aa 13 50]
def pt:LSO:=[Aa 51 5,o1 52 (.call 37 [(tm 51),(.av (.str [44]))]),Aa 4 52]
def k7:bJ:=⟨53,(.seq (.sreg rg [])
 (.seq (.sreg rf [])
 (.seq (.seq (.sreg re [])
 (.block 0 (.loop (.seq (.sreg rd [])
 (.seq (.cond (tm 14) .skip
 (.exit 0))
 (.seq (.block 1 (.seq (.sreg rb AZ)
 (.seq (.sreg ra [])
 (.seq (.seq (.sreg q9 [])
 (.block 2 (.loop (.seq (.sreg q8 [])
 (.seq (.cond (tm 20) .skip
 (.exit 2))
 (.seq (.block 3 (.seq (.sreg q0 AZ)
 (.seq (.seq (.sreg qZ [])
 (.cond (tm 23) (.dregM pE nX [false,false,false,false,false,false,false])
 .skip))
 (.dregM pD nW Bj))))
 (.sreg pC AY)))))))
 (.seq (.seq (.sreg pB [])
 (.cond (tm 42) (.sreg pA [false,false])
 .skip))
 (.sreg pw Bd))))))
 (.sreg pu AY)))))))
 (.seq (.sreg pt AZ)
 .ret)))),[(.tmp 4)]⟩
attribute [push_cast] rg rf re rd rb ra q9 q8 q0 qZ pE nX pD nW pC pB pA pw pu pt
theorem qB:ct Try.prog (fun r i=>if r=11/\i=9 then 2 else 1) 29=some k7.raw:=by kernel_rfl
attribute [push_cast] k7
variable {L:List Blk} {K:Fw}
set_option maxHeartbeats 8000000
set_option maxRecDepth 100000
def avT (key:Bool) (a:Ava):List UInt8:=if key=true then az a.1++[61]++eC (ba a.2) else a.1++[61]++eC a.2
def bG (key:Bool) (r:Rdn):List UInt8:=Lib.join (if key=true then cd (r.map (avT key)) else r.map (avT key)) [43]
def aE (key:Bool) (d:List Rdn):List UInt8:=Lib.join (d.map (bG key)) [44]
theorem rX (n:Nat):∀ (s:List UInt8) (i:Nat),(wrL n i s).length<=3 * s.length
 | [],_=>by simp [wrL]
 | c::s,i=>by
   have h1:=rX n s (i+1);have h2:=CG i n c;simp only [wrL,FP,FT];omega
theorem yA (l:List (List UInt8)):AV.frzL (am l)=am l:=by
 rw [AV.frzL_eq,FR];rfl
theorem x9 {xs:List (List UInt8)} {sep:List UInt8} {i n:Nat} (hx:n=xs.length) (hn:xs.length<=1100000) (hl:(Lib.join xs sep).length<=140737488355328) (h:K (.str (Lib.join xs sep)) L) :
  Fv 37 [.gsl (am xs) n i 1,.str sep] L K:=by
 subst hx;exact nC (by simpa only [AV.frzL,AV.frz,yA] using qq (cap:=none) hn hl h)
theorem vU {xs:List (List UInt8)} {sep:List UInt8} {i n:Nat} {cp:Option Nat} (he:n=xs.length) (hx:xs≠[]) (hn:xs.length<=1100000) (hl:(Lib.join xs sep).length<=140737488355328) (hL:L[i]?=some (.cells (am xs))) (h:K (.str (Lib.join xs sep)) L) :
  Fv 37 [.lsl i 0 n cp 1,.str sep] L K:=by
 subst he;exact C1 hx hn hl hL h
theorem CI {d:List Rdn} {cap:Option Nat} (hn:d.length<=1000) (hr:∀ r∈d,r.length<=1000/\∀ a∈r,a.1.length<=10000/\a.2.length<=10000) (hj1:∀ r∈d,(bG false r).length<=140737488355328) (hj2:(aE false d).length<=140737488355328) (h:K (.str (aE false d)) L) :
  Fv 29 [.sl (d.map aI) d.length cap,.bool false] L K:=by
 replace h:=hid h;have hat:=hid (fun k=>@oI d k);replace hr:=hid hr;replace hj1:=hid hj1;have s4:∀ (W:List Blk) (j:Nat) (A:Blk),L.length<=j->(L++W).set j A=L++W.set (j - L.length) A:=fun W j A hj=>Gb _ _ hj
 replace s4:=hid s4;refine Fu qB ?_;refine iD (l:=[]) (n:=0) 5 1 rfl (GP 1).symm ?_;refine aM (fun n T' L'=>∃ (i:Nat) (all:List (List UInt8)) (Z:List Blk),n=d.length - i/\i<=d.length/\Hid (all=(d.take i).map (bG false))/\L'[L.length]?=some (.spare i 1)/\T'=[(13,.int .i64 (i:Int)),(12,.int .i64 d.length),(11,.sl (d.map aI) d.length cap),(5,.gsl (am all) i L.length 1),(1,.bool false)]/\L'=L++Z) (CutS (b:=by simp)) ⟨0,[],[.spare 0 1],rfl,FW _,hid rfl,by simp,rfl,rfl⟩ ?_;rintro _ _ _ ⟨i,all,X,rfl,hi,hall,ho,rfl,rfl⟩;by_cases hlt:i<d.length
 ·have g1:(i:Int)<(d.length:Int):=by omega
  have g2:=Ft i (by omega);have e2:=hat.out i hlt;have hrm:d.getD i []∈d:=by rw [F4,FN hlt];exact GV _
  have hrl:=hr.out _ hrm;have hjr:=hj1.out _ hrm;obtain ⟨r,hri⟩:=Fq (d.getD i []);have htk:d.take (i+1)=d.take i++[r]:=by rw [Gc hlt,<- hri];simp [hlt]
  rw [hri] at e2 hrl hjr;clear hri hrm;obtain ⟨hrl1,hrl2⟩:=hrl;replace hrl2:=hid hrl2;replace htk:=hid htk;have hX:=(Fx.1 ho).1;rw [FP] at hX;replace hX:=hid hX;refine wk ?_;refine aM (fun n T' L'=>∃ (k:Nat) (v:AV) (Z:List Blk),n=r.length - k/\k<=r.length/\X.length<=Z.length/\L'[L.length]?=some (.spare i 1)/\Hid ((v=.sl [] 0 (some 0)/\k=0)\/∃ j,(0<k/\L.length<j)/\v=.lsl j 0 k none 1/\L'[j]?=some (.cells (am ((r.take k).map (avT false)))))/\T'=[(19,.int .i64 (k:Int)),(18,.int .i64 r.length),(17,aI r),(8,v),(13,.int .i64 (i:Int)),(12,.int .i64 d.length),(11,.sl (d.map aI) d.length cap),(5,.gsl (am all) i L.length 1),(1,.bool false)]/\L'=L++Z) (CutS (b:=by simp)) ⟨0,_,X,rfl,FW _,Fz _,ho,hid (.inl ⟨rfl,rfl⟩),rfl,rfl⟩ ?_;rintro _ _ _ ⟨k,v,Z,rfl,hk,hXZ,ho2,hv,rfl,rfl⟩;replace hXZ:=hid hXZ;by_cases hkl:k<r.length
  ·have g3:(k:Int)<(r.length:Int):=by omega
   have g4:=Ft k (by omega);have e3:=jq hkl;have e4:k * 2+2<=(bE r).length:=by rw [dS];omega
   obtain ⟨⟨ty,va⟩,ha⟩:∃ a,r.getD k ([],[])=a:=⟨_,rfl⟩;have ham:(ty,va)∈r:=by rw [<- ha];simp [hkl]
   have htk2:(r.take (k+1)).map (avT false)=(r.take k).map (avT false)++[ty++61::eC va]:=by
    rw [Gc hkl];have:r[k]=(ty,va):=by rw [<- ha];simp [hkl]
    rw [this];simp [avT]
   rw [ha] at e3;simp only [qW] at e3;have hva:=hrl2.out _ ham;simp only at hva;have hva':va.length<=100000:=by omega
   have hwl:=rX va.length va 0;have b1:(ty.length:Int)+1<=9223372036854775807:=by omega
   have b2:(ty.length:Int)+1+((eC va).length:Int)<=9223372036854775807:=by unfold eC;omega
   clear hwl ha ham hva;replace htk2:=hid htk2;have q1:(k+1) * 16<=140737488355328:=by omega
   have q2:k+1<=140737488355328:=by omega
   have q3:k<=140737488355327:=by omega
   rcases hv.out with ⟨rfl,hk0⟩|⟨j,⟨hk1,hBj⟩,rfl,hj⟩
   ·replace hk0:=hid hk0;have kk1:=@hid _ (fun L K=>dF hva' (L:=L) (K:=K));refine wk ?_;refine aJ _ _ _ (by omega) (CutL (b:=?_)) ⟨k+1,.lsl (L.length+(Z.length+1)) 0 1 none 1,_,rfl,hkl,?_,?_,hid (.inr ⟨L.length+(Z.length+1),⟨by omega,by omega⟩,by rw [hk0.out],?_⟩),rfl,rfl⟩
    ·have:=hXZ.out;simp;omega
    ·have:=hXZ.out;simp;omega
    ·rw [<- FO,FC (Fx.1 ho2).1];exact ho2
    ·rw [lx,lx,htk2.out,hk0.out];rfl
   ·obtain ⟨cur,hcur⟩:=Fq ((r.take k).map (avT false));have hcl:cur.length=k:=by rw [<- hcur];simp;omega
    rw [hcur] at hj;have f1:(L++(Z++[Blk.cells [.str ty,.str va]]))[j]?=some (.cells (am cur)):=by
     rw [<- FO,FC (Fx.1 hj).1];exact hj
    have f2:(L++(Z++[Blk.cells [.str ty,.str va]])).set j .dead=L++(Z++[Blk.cells [.str ty,.str va]]).set (j - L.length) .dead:=s4.out _ _ _ (by omega);have f3:k<=(am cur).length:=by simp [hcl]
    have f4:(am cur).take k=am cur:=Gd (by simp [hcl]);replace hcur:=hid hcur;replace hcl:=hid hcl;have hjL:=hid (show j≠L.length by omega);have f2':=hid f2
    repeat' first
     | refine ku ?_
     | (first|refine iC (by kernel_rfl) ?_|refine eX (by kernel_rfl) ?_|refine fa ?_|refine qE ?_|refine lE (fun _=>?_)|refine dU ?_|refine iF ?_|refine dF hva' ?_|refine ee (dF hva' ⟨rfl,rfl⟩) (dF hva' ⟨rfl,rfl⟩) ?_|refine bB (dF hva' ⟨rfl,rfl⟩) ?_)
       refine sm ?_
     | (first|refine iy (by kernel_rfl) ?_|refine fV ?_|refine eZ ?_|refine iE ?_|refine lK (dT ?_))
       refine sl ?_
     | exact lF
     | first|apply lH|apply iz|apply lI|apply iA|apply lJ|apply iB
     | refine fe ?_
     | refine eY ?_
     | first|refine fb rfl ?_|refine fc rfl ?_|refine dA rfl ?_ ?_|refine gp rfl (fun _=>?_) (fun _=>?_)|refine gm rfl (fun _=>?_) (fun _=>?_)
     | ((first|refine dy (fun _=>?_) (fun _=>?_)|refine dN (fun _=>?_) (fun _=>?_))<;>try refine sm ?_)
     | refine And.intro trivial ?_
     | refine And.intro (by omega) ?_
     | refine dV rfl (fun _=>?_) (fun _=>?_)
     | refine And.intro ?_ ?_
    ·rw [hcl.out];exact Fz _
    ·have hA:((Z++[Blk.cells [.str ty,.str va]]).set (j - L.length) .dead).length=Z.length+1:=by simp
     refine aJ _ _ _ (by omega) (CutL (b:=?_)) ⟨k+1,.lsl (L.length+(Z.length+1)) 0 (k+1) none 1,_,rfl,hkl,?_,?_,hid (.inr ⟨L.length+(Z.length+1),⟨by omega,by omega⟩,rfl,?_⟩),rfl,rfl⟩
     ·have:=hXZ.out;simp;omega
     ·have:=hXZ.out;simp;omega
     ·rw [<- FO,<- f2'.out,FC (by simp),FL hjL.out,<- FO,FC (Fx.1 ho2).1];exact ho2
     ·rw [lx,<- hA,u6,htk2.out,hcur.out];simp
  ·have hke:k=r.length:=by omega
   subst hke;have g3:¬ (r.length:Int)<(r.length:Int):=by omega
   have q4:(i+1) * 16<=140737488355328:=by omega
   have q5:i+1<=140737488355328:=by omega
   have hrow:bG false r=Lib.join (r.map (avT false)) [43]:=by simp [bG]
   rw [hrow] at hjr;have htk3:(d.take (i+1)).map (bG false)=all++[Lib.join (r.map (avT false)) [43]]:=by
    rw [htk.out,FZ,<- hall.out,<- hrow];rfl
   have f0:(L++Z).set L.length (.spare (i+1) 1)=L++Z.set 0 (.spare (i+1) 1):=by rw [s4.out _ _ _ (Fz _),Nat.sub_self]
   have f1:(L++Z.set 0 (.spare (i+1) 1))[L.length]?=some (.spare (i+1) 1):=by
    rw [<- f0,F7,if_pos rfl,if_pos (Fx.1 ho2).1]
   replace hrow:=hid hrow;replace htk3:=hid htk3;replace f1:=hid f1;rcases hv.out with ⟨rfl,hk0⟩|⟨j,⟨hk1,hBj⟩,rfl,hj⟩
   ·have hr0:r=[]:=F8.1 hk0;replace hk0:=hid hk0;refine wk ?_;refine qq (xs:=[]) (by simp) (by simp [Lib.join]) ?_;refine sk ?_;refine wk ?_;rw [show am all++[AV.str (Lib.join [] [43])]=am (all++[Lib.join [] [43]]) by simp];exact aJ _ _ _ (by omega) (CutL (b:=by have:=hX.out;have h0:=(Fx.1 ho2).1;simp at h0 ⊢;omega)) ⟨i+1,all++[Lib.join [] [43]],_,rfl,hlt,hid (by rw [htk3.out,hr0];rfl),f1.out,rfl,rfl⟩
   ·rw [F5] at hj;by_cases hr0:r=[]
    ·rw [hr0] at hk1;cases hk1
    ·refine wk ?_;refine vU (xs:=r.map (avT false)) (by simp) (by simpa using hr0) (by simp;omega) hjr (by simpa using hj) ?_;refine sk ?_;refine wk ?_;rw [show am all++[AV.str (Lib.join (r.map (avT false)) [43])]=am (all++[Lib.join (r.map (avT false)) [43]]) by simp];exact aJ _ _ _ (by omega) (CutL (b:=by have h0:=(Fx.1 ho2).1;simp at h0 ⊢;omega)) ⟨i+1,all++[Lib.join (r.map (avT false)) [43]],_,rfl,hlt,hid htk3.out.symm,f1.out,rfl,rfl⟩
 ·have hke:i=d.length:=by omega
  subst hke;have g1:¬ (d.length:Int)<(d.length:Int):=by omega
  have e:=hall.out;rw [F5] at e;have h':=h.out;simp only [aE] at h' hj2;replace h':=hid h';clear hall;subst e;refine wk ?_;refine x9 (by simp) (by simp;omega) hj2 ?_;refine sk ?_;refine wk ?_;exact ah rfl h'.out
theorem wT (s:List UInt8):(bi s).length<=s.length:=by
 have:=kU s s.length
 rwa [F5] at this
theorem ue (s:List UInt8):(ba s).length<=s.length:=by
 have h1:=wT (az s);have h2:(az s).length=s.length:=by simp [az]
 unfold ba cT;split
 ·simp only [List.length_dropLast];omega
 ·omega
theorem zR {xs:List (List UInt8)} {i n:Nat} {cp:Option Nat} (he:n=xs.length) (hx:xs≠[]) (hn:xs.length<=1100000) (hL:L[i]?=some (.cells (am xs))) (h:K (.tup []) (L.set i (.cells (am (cd xs))))) :
  Fv 45 [.lsl i 0 n cp 1] L K:=by
 subst he;exact CK (rest:=[]) hx hn (by simpa using hL) (by simpa using h)
theorem ua (xs:List (List UInt8)):(cd xs).length=xs.length:=by simp [cd]
theorem xP {d:List Rdn} {cap:Option Nat} (hn:d.length<=1000) (hr:∀ r∈d,r.length<=1000/\∀ a∈r,a.1.length<=10000/\a.2.length<=10000) (hj1:∀ r∈d,(bG true r).length<=140737488355328) (hj2:(aE true d).length<=140737488355328) (h:K (.str (aE true d)) L) :
  Fv 29 [.sl (d.map aI) d.length cap,.bool true] L K:=by
 replace h:=hid h;have hat:=hid (fun k=>@oI d k);replace hr:=hid hr;replace hj1:=hid hj1;have s4:∀ (W:List Blk) (j:Nat) (A:Blk),L.length<=j->(L++W).set j A=L++W.set (j - L.length) A:=fun W j A hj=>Gb _ _ hj
 replace s4:=hid s4;refine Fu qB ?_;refine iD (l:=[]) (n:=0) 5 1 rfl (GP 1).symm ?_;refine aM (fun n T' L'=>∃ (i:Nat) (all:List (List UInt8)) (Z:List Blk),n=d.length - i/\i<=d.length/\Hid (all=(d.take i).map (bG true))/\L'[L.length]?=some (.spare i 1)/\T'=[(13,.int .i64 (i:Int)),(12,.int .i64 d.length),(11,.sl (d.map aI) d.length cap),(5,.gsl (am all) i L.length 1),(1,.bool true)]/\L'=L++Z) (CutS (b:=by simp)) ⟨0,[],[.spare 0 1],rfl,FW _,hid rfl,by simp,rfl,rfl⟩ ?_;rintro _ _ _ ⟨i,all,X,rfl,hi,hall,ho,rfl,rfl⟩;by_cases hlt:i<d.length
 ·have g1:(i:Int)<(d.length:Int):=by omega
  have g2:=Ft i (by omega);have e2:=hat.out i hlt;have hrm:d.getD i []∈d:=by rw [F4,FN hlt];exact GV _
  have hrl:=hr.out _ hrm;have hjr:=hj1.out _ hrm;obtain ⟨r,hri⟩:=Fq (d.getD i []);have htk:d.take (i+1)=d.take i++[r]:=by rw [Gc hlt,<- hri];simp [hlt]
  rw [hri] at e2 hrl hjr;clear hri hrm;obtain ⟨hrl1,hrl2⟩:=hrl;replace hrl2:=hid hrl2;replace htk:=hid htk;have hX:=(Fx.1 ho).1;rw [FP] at hX;replace hX:=hid hX;refine wk ?_;refine aM (fun n T' L'=>∃ (k:Nat) (v:AV) (Z:List Blk),n=r.length - k/\k<=r.length/\X.length<=Z.length/\L'[L.length]?=some (.spare i 1)/\Hid ((v=.sl [] 0 (some 0)/\k=0)\/∃ j,(0<k/\L.length<j)/\v=.lsl j 0 k none 1/\L'[j]?=some (.cells (am ((r.take k).map (avT true)))))/\T'=[(19,.int .i64 (k:Int)),(18,.int .i64 r.length),(17,aI r),(8,v),(13,.int .i64 (i:Int)),(12,.int .i64 d.length),(11,.sl (d.map aI) d.length cap),(5,.gsl (am all) i L.length 1),(1,.bool true)]/\L'=L++Z) (CutS (b:=by simp)) ⟨0,_,X,rfl,FW _,Fz _,ho,hid (.inl ⟨rfl,rfl⟩),rfl,rfl⟩ ?_;rintro _ _ _ ⟨k,v,Z,rfl,hk,hXZ,ho2,hv,rfl,rfl⟩;replace hXZ:=hid hXZ;by_cases hkl:k<r.length
  ·have g3:(k:Int)<(r.length:Int):=by omega
   have g4:=Ft k (by omega);have e3:=jq hkl;have e4:k * 2+2<=(bE r).length:=by rw [dS];omega
   obtain ⟨⟨ty,va⟩,ha⟩:∃ a,r.getD k ([],[])=a:=⟨_,rfl⟩;have ham:(ty,va)∈r:=by rw [<- ha];simp [hkl]
   have htk2:(r.take (k+1)).map (avT true)=(r.take k).map (avT true)++[az ty++61::eC (ba va)]:=by
    rw [Gc hkl];have:r[k]=(ty,va):=by rw [<- ha];simp [hkl]
    rw [this];simp [avT]
   rw [ha] at e3;simp only [qW] at e3;have hva:=hrl2.out _ ham;simp only at hva;have hpl:=ue va;have hva':(ba va).length<=100000:=by omega
   have hva2:(va.length:Int)<=100000:=by omega
   have hty2:(ty.length:Int)<=100000:=by omega
   have hwl:=rX (ba va).length (ba va) 0;have hfl:(az ty).length=ty.length:=by simp [az]
   have b1:((az ty).length:Int)+1<=9223372036854775807:=by omega
   have b2:((az ty).length:Int)+1+((eC (ba va)).length:Int)<=9223372036854775807:=by unfold eC;omega
   clear hwl ha ham hva hfl hpl;replace htk2:=hid htk2;have q1:(k+1) * 16<=140737488355328:=by omega
   have q2:k+1<=140737488355328:=by omega
   have q3:k<=140737488355327:=by omega
   rcases hv.out with ⟨rfl,hk0⟩|⟨j,⟨hk1,hBj⟩,rfl,hj⟩
   ·replace hk0:=hid hk0;have kk1:=@hid _ (fun L K=>mW hty2 (L:=L) (K:=K));have kk2:=@hid _ (fun L K=>sC hva2 (L:=L) (K:=K));have kk3:=@hid _ (fun L K=>dF hva' (L:=L) (K:=K));refine wk ?_;refine aJ _ _ _ (by omega) (CutL (b:=?_)) ⟨k+1,.lsl (L.length+(Z.length+1)) 0 1 none 1,_,rfl,hkl,?_,?_,hid (.inr ⟨L.length+(Z.length+1),⟨by omega,by omega⟩,by rw [hk0.out],?_⟩),rfl,rfl⟩
    ·have:=hXZ.out;simp;omega
    ·have:=hXZ.out;simp;omega
    ·rw [<- FO,FC (Fx.1 ho2).1];exact ho2
    ·rw [lx,lx,htk2.out,hk0.out];rfl
   ·obtain ⟨cur,hcur⟩:=Fq ((r.take k).map (avT true));have hcl:cur.length=k:=by rw [<- hcur];simp;omega
    rw [hcur] at hj;have f1:(L++(Z++[Blk.cells [.str (az ty),.str (ba va)]]))[j]?=some (.cells (am cur)):=by
     rw [<- FO,FC (Fx.1 hj).1];exact hj
    have f2:(L++(Z++[Blk.cells [.str (az ty),.str (ba va)]])).set j .dead=L++(Z++[Blk.cells [.str (az ty),.str (ba va)]]).set (j - L.length) .dead:=s4.out _ _ _ (by omega);have f3:k<=(am cur).length:=by simp [hcl]
    have f4:(am cur).take k=am cur:=Gd (by simp [hcl]);replace hcur:=hid hcur;replace hcl:=hid hcl;have hjL:=hid (show j≠L.length by omega);have f2':=hid f2
    repeat' first
     | refine ku ?_
     | (first|refine iC (by kernel_rfl) ?_|refine eX (by kernel_rfl) ?_|refine fa ?_|refine qE ?_|refine lE (fun _=>?_)|refine dU ?_|refine iF ?_|refine mW hty2 ?_|refine sC hva2 ?_|refine dF hva' ?_|refine ee (mW hty2 ⟨rfl,rfl⟩) (mW hty2 ⟨rfl,rfl⟩) ?_|refine ee (sC hva2 ⟨rfl,rfl⟩) (sC hva2 ⟨rfl,rfl⟩) ?_|refine ee (dF hva' ⟨rfl,rfl⟩) (dF hva' ⟨rfl,rfl⟩) ?_|refine bB (mW hty2 ⟨rfl,rfl⟩) ?_|refine bB (sC hva2 ⟨rfl,rfl⟩) ?_|refine bB (dF hva' ⟨rfl,rfl⟩) ?_)
       refine sm ?_
     | (first|refine iy (by kernel_rfl) ?_|refine fV ?_|refine eZ ?_|refine iE ?_|refine lK (dT ?_))
       refine sl ?_
     | exact lF
     | first|apply lH|apply iz|apply lI|apply iA|apply lJ|apply iB
     | refine fe ?_
     | refine eY ?_
     | first|refine fb rfl ?_|refine fc rfl ?_|refine dA rfl ?_ ?_|refine gp rfl (fun _=>?_) (fun _=>?_)|refine gm rfl (fun _=>?_) (fun _=>?_)
     | ((first|refine dy (fun _=>?_) (fun _=>?_)|refine dN (fun _=>?_) (fun _=>?_))<;>try refine sm ?_)
     | refine And.intro trivial ?_
     | refine And.intro (by omega) ?_
     | refine dV rfl (fun _=>?_) (fun _=>?_)
     | refine And.intro ?_ ?_
    ·rw [hcl.out];exact Fz _
    ·have hA:((Z++[Blk.cells [.str (az ty),.str (ba va)]]).set (j - L.length) .dead).length=Z.length+1:=by simp
     refine aJ _ _ _ (by omega) (CutL (b:=?_)) ⟨k+1,.lsl (L.length+(Z.length+1)) 0 (k+1) none 1,_,rfl,hkl,?_,?_,hid (.inr ⟨L.length+(Z.length+1),⟨by omega,by omega⟩,rfl,?_⟩),rfl,rfl⟩
     ·have:=hXZ.out;simp;omega
     ·have:=hXZ.out;simp;omega
     ·rw [<- FO,<- f2'.out,FC (by simp),FL hjL.out,<- FO,FC (Fx.1 ho2).1];exact ho2
     ·rw [lx,<- hA,u6,htk2.out,hcur.out];simp
  ·have hke:k=r.length:=by omega
   subst hke;have g3:¬ (r.length:Int)<(r.length:Int):=by omega
   have q4:(i+1) * 16<=140737488355328:=by omega
   have q5:i+1<=140737488355328:=by omega
   have hrow:bG true r=Lib.join (cd (r.map (avT true))) [43]:=by simp [bG]
   rw [hrow] at hjr;have htk3:(d.take (i+1)).map (bG true)=all++[Lib.join (cd (r.map (avT true))) [43]]:=by
    rw [htk.out,FZ,<- hall.out,<- hrow];rfl
   replace hrow:=hid hrow;replace htk3:=hid htk3;rcases hv.out with ⟨rfl,hk0⟩|⟨j,⟨hk1,hBj⟩,rfl,hj⟩
   ·have hr0:r=[]:=F8.1 hk0;have f0:(L++Z).set L.length (.spare (i+1) 1)=L++Z.set 0 (.spare (i+1) 1):=by rw [s4.out _ _ _ (Fz _),Nat.sub_self]
    have f1:(L++Z.set 0 (.spare (i+1) 1))[L.length]?=some (.spare (i+1) 1):=by
     rw [<- f0,F7,if_pos rfl,if_pos (Fx.1 ho2).1]
    replace f1:=hid f1;replace hk0:=hid hk0;refine wk ?_;refine zS ?_;refine sk ?_;refine wk ?_;refine qq (xs:=[]) (by simp) (by simp [Lib.join]) ?_;refine sk ?_;refine wk ?_;rw [show am all++[AV.str (Lib.join [] [43])]=am (all++[Lib.join [] [43]]) by simp];exact aJ _ _ _ (by omega) (CutL (b:=by have:=hX.out;have h0:=(Fx.1 ho2).1;simp at h0 ⊢;omega)) ⟨i+1,all++[Lib.join [] [43]],_,rfl,hlt,hid (by rw [htk3.out,hr0];simp [cd]),f1.out,rfl,rfl⟩
   ·rw [F5] at hj;have hr0:r≠[]:=fun e=>by rw [e] at hk1;cases hk1
    obtain ⟨xs,hxs⟩:=Fq (r.map (avT true));have hxl:r.length=xs.length:=by rw [<- hxs];simp
    have hxne:xs≠[]:=fun e=>hr0 (by have:=hxl;rw [e] at this;exact F8.1 this)
    rw [hxs] at hj hjr htk3;have hsl:=ua xs;have hjl:L.length+(j - L.length)=j:=by omega
    have f2:(L++Z).set j (.cells (am (cd xs)))=L++Z.set (j - L.length) (.cells (am (cd xs))):=s4.out _ _ _ (by omega);have f3:(L++Z.set (j - L.length) (.cells (am (cd xs))))[j]?=some (.cells (am (cd xs))):=by
     rw [<- f2,F7,if_pos rfl,if_pos (Fx.1 hj).1]
    have ho3:(L++Z.set (j - L.length) (.cells (am (cd xs))))[L.length]?=some (.spare i 1):=by
     rw [<- f2,FL (by omega)];exact ho2
    clear ho2;replace hj:=hid hj;generalize hZ1:Z.set (j - L.length) (.cells (am (cd xs)))=Z1 at f2 f3 ho3;have f0:(L++Z1).set L.length (.spare (i+1) 1)=L++Z1.set 0 (.spare (i+1) 1):=by rw [s4.out _ _ _ (Fz _),Nat.sub_self]
    have f1:(L++Z1.set 0 (.spare (i+1) 1))[L.length]?=some (.spare (i+1) 1):=by
     rw [<- f0,F7,if_pos rfl,if_pos (Fx.1 ho3).1]
    replace f1:=hid f1;replace f2:=hid f2;replace f3:=hid f3;replace hxs:=hid hxs;replace hxl:=hid hxl;replace hsl:=hid hsl;clear hZ1;replace hxne:=hid hxne;refine wk ?_;refine zR hxl.out hxne.out (by have:=hxl.out;omega) hj.out ?_;rw [f2.out];refine sk ?_;refine wk ?_;refine vU (xs:=cd xs) (by rw [hsl.out];exact hxl.out) (fun e=>hxne.out (by have:=hsl.out;rw [e] at this;exact F8.1 this.symm)) (by have:=hxl.out;rw [hsl.out];omega) hjr f3.out ?_;refine sk ?_;refine wk ?_;rw [show am all++[AV.str (Lib.join (cd xs) [43])]=am (all++[Lib.join (cd xs) [43]]) by simp];exact aJ _ _ _ (by omega) (CutL (b:=by have h0:=(Fx.1 ho3).1;simp at h0 ⊢;omega)) ⟨i+1,all++[Lib.join (cd xs) [43]],_,rfl,hlt,hid htk3.out.symm,f1.out,rfl,rfl⟩
 ·have hke:i=d.length:=by omega
  subst hke;have g1:¬ (d.length:Int)<(d.length:Int):=by omega
  have e:=hall.out;rw [F5] at e;have h':=h.out;simp only [aE] at h' hj2;replace h':=hid h';clear hall;subst e;refine wk ?_;refine x9 (by simp) (by simp;omega) hj2 ?_;refine sk ?_;refine wk ?_;exact ah rfl h'.out
def oC (r:Rdn):Bool:=r.any fun a=>decide (4096<a.2.length)
def oD (d:List Rdn):Bool:=d.any oC
theorem uC:∀ (t done:Rdn),cS done t=0->done.length<=8->(done++t).length<=8/\∀ a∈t,a.1.length<=32
 | [],done,_,h=>by simp;exact h
 | a::t,done,h,hd=>by
   simp only [cS] at h;split at h
   ·cases h
   ·split at h
    ·cases h
    ·split at h
     ·cases h
     ·rename_i h1 h2 h3
      have:=uC t (done++[a]) h (by simp;omega);refine ⟨by simpa using this.1,fun b hb=>?_⟩;rcases FX.1 hb with rfl|hb
      ·exact vw (by simpa using h2)
      ·exact this.2 b hb
theorem vf:∀ (d:List Rdn) (i:Nat),gk i d=0->i<=32->i+d.length<=32/\∀ r∈d,r.length<=8/\∀ a∈r,a.1.length<=32
 | [],i,_,h=>by simp;exact h
 | r::d,i,h,hi=>by
   simp only [gk] at h;split at h
   ·cases h
   ·split at h
    ·cases h
    ·split at h
     ·rename_i h3;exact absurd h h3
     ·rename_i h1 h2 h3
      have h3':cS [] r=0:=by simpa using h3
      have a1:=uC r [] h3' (by simp);have a2:=vf d (i+1) h (by omega);refine ⟨by simp;omega,fun q hq=>?_⟩;rcases FX.1 hq with rfl|hq
      ·exact ⟨by simpa using a1.1,a1.2⟩
      ·exact a2.2 q hq
theorem t6 (s:List UInt8):(eC s).length<=3 * s.length:=rX _ _ _
theorem Dn {key:Bool} {a:Ava} (h1:a.1.length<=32) (h2:a.2.length<=4096):(avT key a).length<=20000:=by
 have e1:=t6 a.2;have e2:=t6 (ba a.2);have e3:=ue a.2;have e4:(az a.1).length=a.1.length:=by simp [az]
 unfold avT;split
 ·simp;omega
 ·simp;omega
theorem sW {B:Nat} {sep:List UInt8}:∀ xs:List (List UInt8),(∀ x∈xs,x.length<=B)->(Lib.join xs sep).length<=xs.length * (B+sep.length)
 | [],_=>by simp [Lib.join]
 | [x],h=>by
   have:=h x (by simp);simp [Lib.join,List.intercalate];omega
 | x::y::l,h=>by
   have h1:=sW (sep:=sep) (y::l) fun z hz=>h z (Ht _ hz)
   have h2:=h x (by simp);have e:Lib.join (x::y::l) sep=x++(sep++Lib.join (y::l) sep):=by simp [Lib.join,List.intercalate]
   rw [e];simp only [FP,FT,Nat.succ_mul] at h1 ⊢;omega
theorem pg {key:Bool} {r:Rdn} (h0:r.length<=8) (h1:∀ a∈r,a.1.length<=32) (h2:∀ a∈r,a.2.length<=4096):(bG key r).length<=200000:=by
 have key1:∀ xs:List (List UInt8),xs.length<=8->(∀ x∈xs,x.length<=20000)->(Lib.join xs [43]).length<=200000:=fun xs a b=>by
  have c:=sW (sep:=[43]) xs b;have d:xs.length * (20000+[(43:UInt8)].length)<=8 * (20000+1):=Gz _ a;omega
 have hm:∀ x∈r.map (avT key),x.length<=20000:=fun x hx=>by
  obtain ⟨a,ha,rfl⟩:=FF.1 hx;exact Dn (h1 a ha) (h2 a ha)
 unfold bG;split
 ·refine key1 _ (by rw [ua];simpa using h0) fun x hx=>hm x ?_
  exact (G0 (r.map (avT key)) _).mem_iff.1 hx
 ·exact key1 _ (by simpa using h0) hm
theorem o9 {key:Bool} {d:List Rdn} (h0:d.length<=32) (h1:∀ r∈d,(bG key r).length<=200000):(aE key d).length<=10000000:=by
 have c:=sW (sep:=[44]) (B:=200000) (d.map (bG key)) fun x hx=>by
  obtain ⟨r,hr,rfl⟩:=FF.1 hx;exact h1 r hr
 have e:(d.map (bG key)).length * (200000+[(44:UInt8)].length)<=32 * (200000+1):=Gz _ (by simpa using h0);unfold aE;omega
def prS (d:List Rdn):List UInt8×Int:=if gk 0 d≠0 then ([],gk 0 d) else if oD d=true then ([],5) else if 4096<(aE false d).length then ([],5) else (aE false d,0)
def zP (p:List UInt8×Int):AV:=.tup [.str p.1,.int .i64 p.2]
def uS (d:List Rdn):List UInt8×Int:=if (prS d).2≠0 then ([],(prS d).2) else (aE true d,0)
theorem lm {d:List Rdn} {cap:Option Nat} (hn:d.length<=1100000) (hr:∀ r∈d,r.length<=1100000) (h:K (zP (prS d)) L) :
  Fv 15 [.sl (d.map aI) d.length cap] L K:=by
 have hat:=hid (fun k=>@oI d k);unfold prS zP at h;refine Fu tV ?_;refine Dc hn hr ?_;by_cases hc:gk 0 d=0;rotate_left
 ·rw [if_pos hc] at h;replace h:=hid h;refine sk ?_;refine wk ?_;exact aq h.out
 rw [if_neg (by simpa using hc)] at h;obtain ⟨hd32,hd8⟩:=vf d 0 hc (by omega);rw [hc];replace hd8:=hid hd8;replace h:=hid h;clear hr hn hc;refine sk ?_;refine wk ?_;refine aM (fun n T' L'=>∃ (i:Nat) (c:Int) (Z:List Blk),n=d.length - i/\i<=d.length/\Hid (oD (d.take i)=false/\0<=c/\c<=8 * i)/\T'=[(18,.int .i64 (i:Int)),(17,.int .i64 d.length),(16,.sl (d.map aI) d.length cap),(5,.int .i64 c),(0,.sl (d.map aI) d.length cap)]/\L'=L++Z) (CutS (b:=by simp)) ⟨0,0,[],rfl,FW _,hid ⟨rfl,by omega,by omega⟩,rfl,by simp⟩ ?_;rintro _ _ _ ⟨i,c,X,rfl,hi,hI,rfl,rfl⟩;by_cases hlt:i<d.length
 ·have g1:(i:Int)<(d.length:Int):=by omega
  have g2:=Ft i (by omega);have e2:=hat.out i hlt;have hrm:d.getD i []∈d:=by rw [F4,FN hlt];exact GV _
  obtain ⟨r,hri⟩:=Fq (d.getD i []);have htk:d.take (i+1)=d.take i++[r]:=by rw [Gc hlt,<- hri];simp [hlt]
  rw [hri] at e2 hrm;have hr8:=(hd8.out r hrm).1;have bad:oC r=true->K (.tup [.str [],.int .i64 5]) L:=fun e=>by
   have h':=h.out;rw [if_pos (show oD d=true from Ha.2 ⟨r,hrm,e⟩)] at h';exact h'
  replace bad:=hid bad;replace htk:=hid htk;clear hri hrm;refine wk ?_;refine aM (fun n T' L'=>∃ (k:Nat) (c':Int) (Z:List Blk),n=r.length - k/\k<=r.length/\X.length<=Z.length/\Hid (oC (r.take k)=false/\c'=c+k)/\T'=[(24,.int .i64 (k:Int)),(23,.int .i64 r.length),(22,aI r),(18,.int .i64 (i:Int)),(17,.int .i64 d.length),(16,.sl (d.map aI) d.length cap),(5,.int .i64 c'),(0,.sl (d.map aI) d.length cap)]/\L'=L++Z) (CutS (b:=by simp)) ⟨0,c,X,rfl,FW _,Fz _,hid ⟨rfl,by omega⟩,rfl,rfl⟩ ?_;rintro _ _ _ ⟨k,c',Z,rfl,hk,hXZ,hJ,rfl,rfl⟩;replace hXZ:=hid hXZ;by_cases hkl:k<r.length
  ·have g3:(k:Int)<(r.length:Int):=by omega
   have g4:=Ft k (by omega);have g5:IntKind.i64.wrap (c'+1)=c'+1:=by
    obtain ⟨_,z1,z2⟩:=hI.out;have:=hJ.out.2;exact aw (by omega) (by omega)
   have e3:=jq hkl;have e4:k * 2+2<=(bE r).length:=by rw [dS];omega
   obtain ⟨⟨ty,va⟩,ha⟩:∃ a,r.getD k ([],[])=a:=⟨_,rfl⟩;have ham:(ty,va)∈r:=by rw [<- ha];simp [hkl]
   have htk2:r.take (k+1)=r.take k++[(ty,va)]:=by rw [Gc hkl,<- ha];simp [hkl]
   rw [ha] at e3;simp only [qW] at e3;have zl:4096<va.length->oC r=true:=fun e=>Ha.2 ⟨_,ham,by simpa using e⟩
   replace zl:=hid zl;replace htk2:=hid htk2;clear ha ham;by_cases hlv:(4096:Int)<(va.length:Int)
   ·have h':=hid (bad.out (zl.out (by omega)));refine wk ?_;exact ah rfl h'.out
   ·refine wk ?_;refine aJ _ _ _ (by omega) (CutL (b:=?_)) ⟨k+1,c'+1,_,rfl,hkl,?_,hid ⟨?_,by have:=hJ.out.2;omega⟩,rfl,rfl⟩
    ·have:=hXZ.out;simp;omega
    ·have:=hXZ.out;simp;omega
    ·rw [htk2.out,oC,HV,show (r.take k).any _=oC (r.take k) from rfl,hJ.out.1];simp;omega
  ·have hke:k=r.length:=by omega
   subst hke;have g3:¬ (r.length:Int)<(r.length:Int):=by omega
   have hlr:=hJ.out.1;rw [F5] at hlr;replace hlr:=hid hlr;refine wk ?_;refine aJ _ _ _ (by omega) (CutL (b:=by simp)) ⟨i+1,c',_,rfl,hlt,hid ⟨?_,?_,?_⟩,rfl,rfl⟩
   ·rw [htk.out,oD,HV,show (d.take i).any _=oD (d.take i) from rfl,hI.out.1];simp [hlr.out]
   ·obtain ⟨_,z1,z2⟩:=hI.out;have:=hJ.out.2;omega
   ·obtain ⟨_,z1,z2⟩:=hI.out;have:=hJ.out.2;omega
 ·have hke:i=d.length:=by omega
  subst hke;have g1:¬ (d.length:Int)<(d.length:Int):=by omega
  have hld:=hI.out.1;rw [F5] at hld;have h':=h.out;rw [if_neg (by rw [hld];simp)] at h';have hv:∀ r∈d,∀ a∈r,a.2.length<=4096:=fun r hr a ha=>by
   have h1:=HD.1 hld r hr;have h1':oC r=false:=by simpa using h1
   unfold oC at h1';have h2:=HD.1 h1' a ha;simpa using h2
  have hrl:∀ r∈d,(bG false r).length<=200000:=fun r hr=>pg (hd8.out r hr).1 (hd8.out r hr).2 (hv r hr)
  have htl:=o9 (by omega) hrl;replace h':=hid h';clear hld;replace hv:=hid hv;replace hrl:=hid hrl;refine wk ?_;refine CI (by omega) (fun r hr=>⟨by have:=(hd8.out r hr).1;omega,fun a ha=>⟨by have:=(hd8.out r hr).2 a ha;omega,by have:=hv.out r hr a ha;omega⟩⟩) (fun r hr=>by have:=hrl.out r hr;omega) (by omega) ?_;by_cases hlg:4096<(aE false d).length
  ·have k1:(4096:Int)<((aE false d).length:Int):=by omega
   have h2:=h'.out;rw [if_pos hlg] at h2;replace h2:=hid h2;clear hlg;refine sk ?_;refine wk ?_;exact ah rfl h2.out
  ·have k1:¬ (4096:Int)<((aE false d).length:Int):=by omega
   have h2:=h'.out;rw [if_neg hlg] at h2;replace h2:=hid h2;clear hlg;refine sk ?_;refine wk ?_;exact ah rfl h2.out
theorem uM {d:List Rdn} (h:(prS d).2=0):d.length<=32/\∀ r∈d,r.length<=8/\∀ a∈r,a.1.length<=32/\a.2.length<=4096:=by
 unfold prS at h;split at h
 ·rename_i hc;exact absurd h hc
 ·rename_i hc
  split at h
  ·cases h
  ·rename_i hl
   have h0:gk 0 d=0:=by simpa using hc
   obtain ⟨h1,h2⟩:=vf d 0 h0 (by omega);have hld:oD d=false:=by simpa using hl
   refine ⟨by omega,fun r hr=>⟨(h2 r hr).1,fun a ha=>⟨(h2 r hr).2 a ha,?_⟩⟩⟩;have k1:=HD.1 hld r hr;have k1':oC r=false:=by simpa using k1
   unfold oC at k1';have k2:=HD.1 k1' a ha;simpa using k2
theorem qM {d:List Rdn} {cap:Option Nat} (hn:d.length<=1100000) (hr:∀ r∈d,r.length<=1100000) (h:K (zP (uS d)) L) :
  Fv 19 [.sl (d.map aI) d.length cap] L K:=by
 unfold uS zP at h;refine Fu vi ?_;refine lm hn hr ?_;unfold zP;obtain ⟨⟨ps,pe⟩,hp⟩:∃ p,prS d=p:=⟨_,rfl⟩;rw [hp] at h ⊢;simp only at h ⊢;by_cases h0:pe=0
 ·subst h0;obtain ⟨q1,q2⟩:=uM (by rw [hp]);rw [if_neg (by simp)] at h;have hrl:∀ r∈d,(bG true r).length<=200000:=fun r hr=>pg (q2 r hr).1 (fun a ha=>((q2 r hr).2 a ha).1) (fun a ha=>((q2 r hr).2 a ha).2)
  have htl:=o9 (by omega) hrl;replace h:=hid h;replace q2:=hid q2;replace hrl:=hid hrl;clear hp hr;refine sk ?_;refine wk ?_;refine xP (by omega) (fun r hr=>⟨by have:=(q2.out r hr).1;omega,fun a ha=>⟨by have:=((q2.out r hr).2 a ha).1;omega,by have:=((q2.out r hr).2 a ha).2;omega⟩⟩) (fun r hr=>by have:=hrl.out r hr;omega) (by omega) ?_;refine sk ?_;refine wk ?_;exact aq h.out
 ·rw [if_pos h0] at h;replace h:=hid h;clear hp hr;refine sk ?_;refine wk ?_;exact aq h.out
theorem iG (b:List UInt8) (c:UInt8):cT (b++[c])=if c=32 then b else b++[c]:=by simp [cT]
def mT (a:Ava):Ava:=(az a.1,ba a.2)
abbrev nD (a:Ava):List UInt8:=avT false a
def sG (l:Rdn) (x:Ava):Nat->Nat
 | 0=>0
 | n+1=>if nD x<nD (l.getD n ([],[])) then sG l x n else n+1
def sY (l:Rdn) (x:Ava):Rdn:=l.take (sG l x l.length)++[x]++l.drop (sG l x l.length)
def ji (r:Rdn):Rdn:=r.foldl (fun l a=>sY l (mT a)) []
def ln (d:List Rdn):List Rdn:=d.map ji
theorem uN (l:Rdn) (x:Ava):∀ n,sG l x n<=n
 | 0=>Fz _
 | n+1=>by
   have:=uN l x n;unfold sG;split<;>omega
theorem BM (l:Rdn) (x:Ava):(sY l x).length=l.length+1:=by
 have:=uN l x l.length;simp [sY];omega
theorem s7 (r:Rdn):∀ l:Rdn,(r.foldl (fun l a=>sY l (mT a)) l).length=l.length+r.length:=by
 induction r with
 | nil=>simp
 | cons a r ih=>intro l;rw [G4,ih,BM];simp;omega
theorem sJ (r:Rdn):(ji r).length=r.length:=by simp [ji,s7]
theorem xT (l:Rdn) (x:Ava):∀ (n j:Nat),sG l x n<=j->j<n->nD x<nD (l.getD j ([],[]))
 | 0,_,_,h=>by omega
 | n+1,j,h1,h2=>by
   unfold sG at h1;split at h1
   ·rename_i hk
    rcases FV j n with e|e
    ·exact xT l x n j h1 e
    ·have:j=n:=by omega
     subst this;exact hk
   ·omega
theorem xU (l:Rdn) (x:Ava):∀ n,sG l x n=0\/¬ nD x<nD (l.getD (sG l x n - 1) ([],[]))
 | 0=>.inl rfl
 | n+1=>by
   unfold sG;split
   ·exact xU l x n
   ·rename_i hk;exact .inr (by simpa using hk)
def uF (l:Rdn):Prop:=l.Pairwise fun a b=>nD a<=nD b
theorem w9 {l:Rdn} {x:Ava} (hs:uF l):uF (sY l x):=by
 have hge:=xT l x l.length;have hat:=xU l x l.length;have hle:=uN l x l.length;unfold sY;obtain ⟨p,hp⟩:=Fq (sG l x l.length);rw [hp] at hge hat hle ⊢;have hs2:uF (l.take p++l.drop p):=by rw [G5];exact hs
 obtain ⟨h1,h2,h3⟩:=H8.1 hs2;have ha:∀ a∈l.take p,nD a<=nD x:=fun a ha=>by
  rcases hat with e|e
  ·subst e;simp at ha
  ·have hp1:p - 1<l.length:=by
    rcases Gr p with z|z
    ·subst z;simp at ha
    ·omega
   refine List.le_trans ?_ (List.not_lt.1 e);obtain ⟨i,hi,rfl⟩:=GM.1 ha;simp only [GC] at hi;rw [HX];have hg:l.getD (p - 1) ([],[])=l[p - 1]:=by simp [hp1]
   rw [hg];rcases FV i (p - 1) with q|q
   ·exact (HY.1 hs) i (p - 1) (by omega) hp1 q
   ·have:i=p - 1:=by omega
    subst this;exact List.not_lt.1 (List.lt_irrefl _)
 have hb:∀ b∈l.drop p,nD x<=nD b:=fun b hb=>by
  obtain ⟨i,hi,rfl⟩:=GM.1 hb;simp only [HZ] at hi;rw [List.getElem_drop];have:=hge (p+i) (by omega) (by omega);have hg:l.getD (p+i) ([],[])=l[p+i]:=by simp [show p+i<l.length by omega]
  rw [hg] at this;exact List.le_of_lt this
 unfold uF;rw [FO,H8];refine ⟨h1,?_,?_⟩
 ·simp only [Hz,List.pairwise_cons];exact ⟨hb,h2⟩
 ·intro a haa b hbb;simp only [Hz,FX] at hbb;rcases hbb with rfl|hbb
  ·exact ha a haa
  ·exact h3 a haa b hbb
theorem BL (l:Rdn) (x:Ava):(sY l x).Perm (x::l):=by
 unfold sY;rw [FO];refine (List.perm_middle (l₁:=l.take _) (l₂:=l.drop _)).trans ?_;rw [G5]
theorem s8:∀ (r l:Rdn),uF l->uF (r.foldl (fun l a=>sY l (mT a)) l)/\(r.foldl (fun l a=>sY l (mT a)) l).Perm (l++r.map mT)
 | [],l,h=>by simpa using h
 | a::r,l,h=>by
   obtain ⟨h1,h2⟩:=s8 r (sY l (mT a)) (w9 h);refine ⟨h1,h2.trans ?_⟩;refine ((BL l (mT a)).append_right _).trans ?_;simp only [FQ];exact (List.perm_middle (l₁:=l)).symm
theorem yf (a:Ava):avT true a=nD (mT a):=by simp [avT,mT]
theorem wU (r:Rdn):(ji r).map nD=cd (r.map (avT true)):=by
 obtain ⟨h1,h2⟩:=s8 r [] List.Pairwise.nil;refine H9 (le:=fun x y=>x<=y) (fun a b _ _=>List.le_antisymm) ?_ ?_ ?_
 ·rw [List.pairwise_map];exact h1
 ·have:=H0 (le:=fun x y:List UInt8=>decide (x<=y)) (fun a b c h1 h2=>by
   simp only [decide_eq_true_eq] at *;exact List.le_trans h1 h2) (fun a b=>by
   simp only [Gm,decide_eq_true_eq];exact List.le_total a b) (r.map (avT true))
  exact this.imp fun h=>by simpa using h
 ·refine (h2.map nD).trans ?_;unfold cd;refine List.Perm.trans ?_ (G0 _ _).symm;rw [Gs,FR];rw [show (nD ∘ mT)=avT true from funext fun a=>(yf a).symm]
theorem yI (r:Rdn):bG false (ji r)=bG true r:=by
 have:=wU r;simp only [bG,FI,if_false,if_true];rw [<- this]
theorem sH (d:List Rdn):aE false (ln d)=aE true d:=by
 unfold aE ln;rw [FR];rw [show (bG false ∘ ji)=bG true from funext yI]
theorem xL (v:List UInt8) (rest:List UInt8) (hr:rest=[]\/∃ c t,rest=c::t/\(c=44\/c=43)):∀ (s b:List UInt8) (bl:Bool),b++s=v->(s=[]->bl=false)->ju b bl (wrL v.length b.length s++rest)=some (v,rest,true)
 | [],b,bl,e,h=>by
   rw [Ge] at e;subst e;simp only [wrL,Gs];rw [h rfl];rcases hr with rfl|⟨c,t,rfl,hc⟩
   ·exact zJ
   ·exact yu hc
 | c::s,b,bl,e,h=>by
   have ih:=fun bl' (h':s=[]->bl'=false)=>xL v rest hr s (b++[c]) bl' (by rw [<- e];simp) h'
   have hbl:(b++[c]).length=b.length+1:=by simp
   rw [hbl] at ih;have hvl:v.length=b.length+s.length+1:=by rw [<- e];simp;omega
   rw [wrL,FO];unfold wrB;split
   ·rename_i hc
    subst hc;show ju b bl (92::48::48::(wrL v.length (b.length+1) s++rest))=_
    rw [zK (by decide)];exact ih false (fun _=>rfl)
   ·rename_i hc
    split
    ·rename_i h2
     show ju b bl (92::c::(wrL v.length (b.length+1) s++rest))=_
     rw [yv]
     ·exact ih false (fun _=>rfl)
     ·rcases h2 with ⟨_,rfl|rfl⟩|⟨_,rfl⟩|h2
      ·decide
      ·decide
      ·decide
      ·simp only [FX,Gw,or_false] at h2 ⊢;rcases h2 with rfl|rfl|rfl|rfl|rfl|rfl|rfl<;>decide
    ·rename_i h2
     show ju b bl (c::(wrL v.length (b.length+1) s++rest))=_
     have h5:¬ c∈([34,43,44,59,60,62,92]:List UInt8):=fun q=>h2 (.inr (.inr q))
     simp only [FX,Gw,or_false,not_or] at h5;rw [wK (fun q=>q.elim (fun q=>h5.2.2.1 q) (fun q=>h5.2.1 q)) (fun q=>h5.2.2.2.2.2.2 q)];rw [if_neg]
     ·refine ih _ (fun hs=>?_);rw [decide_eq_false_iff_not];intro q;refine h2 (.inr (.inl ⟨?_,q⟩));rw [hvl,hs];simp
     ·rintro (q|q|⟨q1,q2⟩)
      ·exact hc q
      ·simp only [FX,Gw,or_false] at q;rcases q with q|q|q|q
       ·exact h5.1 q
       ·exact h5.2.2.2.1 q
       ·exact h5.2.2.2.2.1 q
       ·exact h5.2.2.2.2.2.1 q
      ·exact h2 (.inl ⟨by rw [q1];rfl,q2⟩)
theorem oF (v:List UInt8) {rest:List UInt8} (hr:rest=[]\/∃ c t,rest=c::t/\(c=44\/c=43)):ju [] false (eC v++rest)=some (v,rest,true) :=
 xL v rest hr v [] false rfl (fun _=>rfl)
theorem wi:∀ (t r:List UInt8),(∀ c∈t,c≠61)->B2 (t++61::r)=some (t,r)
 | [],r,_=>by simp [B2]
 | c::t,r,h=>by
   rw [G8,B2,if_neg (h c (by simp)),wi t r (fun x hx=>h x (by simp [hx]))]
theorem zL {t:List UInt8} (h:ll t=true):∀ c∈t,c≠61:=by
 intro c hc e;simp only [ll,FG,FH] at h;have:=h.2 c hc;rw [e] at this;exact absurd this (by decide)
theorem sV (x sep:List UInt8) (xs:List (List UInt8)):Lib.join (x::xs) sep=x++xs.flatMap (fun y=>sep++y):=by
 induction xs generalizing x with
 | nil=>simp [Lib.join,List.intercalate]
 | cons y l ih =>
   have e:Lib.join (x::y::l) sep=x++(sep++Lib.join (y::l) sep):=by simp [Lib.join,List.intercalate]
   rw [e,ih];simp
def fN (t:Rdn):List UInt8:=t.flatMap fun a=>43::avT false a
def fG (d:List Rdn):List UInt8:=d.flatMap fun r=>44::bG false r
theorem ub (a:Ava) (t:Rdn):bG false (a::t)=avT false a++fN t:=by
 simp only [bG,FI,if_false,FQ,sV,fN];simp [List.flatMap_map]
theorem yy (r:Rdn) (d:List Rdn):aE false (r::d)=bG false r++fG d:=by
 simp only [aE,FQ,sV,fG];simp [List.flatMap_map]
theorem sL:∀ (f:Nat) (out:List Rdn) (now:Rdn) (a:Ava) (t:Rdn) (d:List Rdn),(avT false a++(fN t++fG d)).length<f->out.length<32->cS now (a::t)=0->gk (out.length+1) d=0 ->
  Bt f out now (avT false a++(fN t++fG d))=(out++[now++a::t]++d,0)
 | 0,_,_,_,_,_,h,_,_,_=>by omega
 | f+1,out,now,(ty,v),t,d,hf,ho,hc,hd=>by
   unfold cS at hc;split at hc
   ·cases hc
   rename_i hn8
   split at hc
   ·cases hc
   rename_i hty
   split at hc
   ·cases hc
   rename_i hha
   simp only [Bool.not_eq_false] at hty;have e1:avT false (ty,v)++(fN t++fG d)=ty++61::(eC v++(fN t++fG d)):=by simp [avT]
   rw [e1] at hf ⊢;rw [Bt,if_neg (by omega),wi _ _ (zL hty)];simp only;rw [if_neg (by simp [hty]),if_neg hha];rcases t with _|⟨a2,t⟩
   ·rcases d with _|⟨r,d⟩
    ·rw [show fN []++fG []=([]:List UInt8) from rfl];rw [oF v (.inl rfl)];simp
    ·rw [show fN []++fG (r::d)=44::(bG false r++fG d) by simp [fN,fG]] at hf ⊢;rw [oF v (.inr ⟨44,_,rfl,.inl rfl⟩)];simp only [GE,if_false,if_true];unfold gk at hd;split at hd
     ·cases hd
     rename_i h32
     split at hd
     ·cases hd
     rename_i hr0
     split at hd
     ·rename_i h5;exact absurd hd h5
     rename_i h5
     simp only [ne_eq,H1] at h5;rcases r with _|⟨a2,t⟩
     ·exact absurd rfl hr0
     have ih:=sL f (out++[now++[(ty,v)]]) [] a2 t d;rw [ub,FO] at hf ⊢;rw [ih (by simp only [FP,FT] at hf ⊢;omega) (by simp;omega) h5 (by simpa using hd)];simp
   ·rw [show fN (a2::t)++fG d=43::(avT false a2++(fN t++fG d)) by simp [fN]] at hf ⊢;rw [oF v (.inr ⟨43,_,rfl,.inr rfl⟩)];simp only [GE,if_false,show ¬ ((43:UInt8)=44) by decide];have ih:=sL f out (now++[(ty,v)]) a2 t d;rw [ih (by simp only [FP,FT] at hf ⊢;omega) ho hc hd];simp
theorem Br {d:List Rdn} (h:gk 0 d=0) (hl:(aE false d).length<=4096):D2 (aE false d)=(d,0):=by
 unfold D2;rw [if_neg (by omega)];rcases d with _|⟨r,d⟩
 ·simp [aE,Lib.join]
 unfold gk at h;split at h
 ·cases h
 split at h
 ·cases h
 rename_i hr0
 split at h
 ·rename_i h5;exact absurd h h5
 rename_i h5
 simp only [ne_eq,H1] at h5;rcases r with _|⟨a,t⟩
 ·exact absurd rfl hr0
 rw [yy,ub,FO];rw [if_neg (by simp [avT])];have:=sL ((avT false a++(fN t++fG d)).length+1) [] [] a t d (by omega) (by simp) h5 h;rw [this];simp
structure Upd where
 kind:Int
 dn:List Rdn
 to:List Rdn
 attrs:List Atr
abbrev dnA (d:List Rdn):AV:=.sl (d.map aI) d.length none
def dnB (d:List Rdn):Prop:=d.length<=1100000/\∀ r∈d,r.length<=1100000
end Go.Proofs.Ytobihfefmlgaoaa.Av
namespace Go.Proofs
open Go.Shelf
def Try.growD_ren:Go.Shelf.Ren:=⟨fun|4=>46|n=>n,fun|22=>28|25=>69|3=>3|4=>4|9=>9|20=>20|0=>0|n=>n,fun|n=>n⟩
theorem Try.growD:Go.Proofs.Lays8.n4 Try.prog Try.growD_ren:={
 mixed:=by kernel_rfl
 f4:=⟨Try.f46.name,by decide,Try.func46.trans (congrArg some (by kernel_rfl))⟩
 t0:=Try.underlying0
 a0:=Try.isAgg0
 z0:=Try.sizeOf0
 v0:=Try.zeroValue0
 t3:=Try.underlying3
 a3:=Try.isAgg3
 z3:=Try.sizeOf3
 v3:=Try.zeroValue3
 t4:=Try.underlying4
 a4:=Try.isAgg4
 z4:=Try.sizeOf4
 v4:=Try.zeroValue4
 t9:=Try.underlying9
 a9:=Try.isAgg9
 z9:=Try.sizeOf9
 v9:=Try.zeroValue9
 t20:=Try.underlying20
 a20:=Try.isAgg20
 z20:=Try.sizeOf20
 v20:=Try.zeroValue20
 t22:=Try.underlying28
 a22:=Try.isAgg28
 z22:=Try.sizeOf28
 v22:=Try.zeroValue28 }
end Go.Proofs
