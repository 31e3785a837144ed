/- Joined texts of the walk, made small by a program. -/
import Derived.Shelf.Strings.Builder1
import Derived.Shelf.Strings.Builder2
import Derived.Shelf.Strings.OnBuilder
import Derived.Shelf.Small.Bits
import Derived.Shelf.Small.Strs
import Derived.Shelf.Strconv.Itoa0
import Derived.Shelf.Strings.Search1
import Derived.Shelf.Strings.Search2
import Derived.Shelf.Strings.Cut
import Derived.Shelf.LaysM
import Derived.Shelf.Strings.Shaped
import Derived.Shelf.Sort.Plain
import Derived.Shelf.Slices.Equal
import Derived.Ground.Names2Prog
import Derived.Shelf.Slices.Clone
import Derived.Shelf.Slices.In.SortNone
import Derived.Shelf.Slices.Empties2
import Derived.Ground.SlsfProg
import Derived.Shelf.SlSortCmp.Insertion
import Derived.Shelf.SlSortCmp.SiftDown1
import Derived.Shelf.SlSortCmp.HeapSort1
import Derived.Shelf.SlSortCmp.Insertion1
import Derived.Shelf.SlSortCmp.Median1
import Derived.Shelf.SlSortCmp.Pivot1
import Derived.Shelf.SlSortCmp.ReverseRange1
import Derived.Shelf.SlSortCmp.PartialInsertion1
import Derived.Shelf.SlSortCmp.PartitionEqual1
import Derived.Shelf.SlSortCmp.Partition1
import Derived.Shelf.SlSortCmp.Pdq1
import Derived.Shelf.SlSortCmp.Whole1
import Derived.Test.YtobihfefmlgaoaaGreatProg
import Derived.Test.YtobihfefmlgaoaaGreatRk8
import Derived.Test.YtobihfefmlgaoaaGreatRk5
import Derived.Test.YtobihfefmlgaoaaGreatRk4
import Derived.Test.YtobihfefmlgaoaaGreatRows
import Derived.KernelRfl
import Derived.Test.YtobihfefmlgaoaaGreatRk9
import Derived.Test.YtobihfefmlgaoaaGreatRk6
set_option linter.unusedSimpArgs false
set_option linter.unusedVariables false
namespace Go.Proofs
open Go.Shelf
def Tryz.lays190_ren:Go.Shelf.Ren:=⟨fun|190=>97|125=>89|258=>134|128=>127|129=>128|302=>153|303=>154|304=>155|305=>156|306=>157|307=>158|308=>159|309=>160|310=>161|333=>172|329=>147|330=>148|334=>173|335=>174|336=>129|344=>177|n=>n,fun|31=>46|9=>9|3=>3|46=>144|0=>0|51=>190|53=>150|4=>4|183=>183|182=>182|131=>187|5=>5|218=>213|222=>217|228=>233|229=>64|n=>n,fun|n=>n⟩
theorem Tryz.lays190:Go.Proofs.Lays.n190 Tryz.prog Tryz.lays190_ren:={
 mixed:=by kernel_rfl
 f125:=Tryz.func89.trans (congrArg some (by kernel_rfl))
 f128:=Tryz.func127.trans (congrArg some (by kernel_rfl))
 f129:=Tryz.func128.trans (congrArg some (by kernel_rfl))
 f190:=Tryz.func97.trans (congrArg some (by kernel_rfl))
 f258:=Tryz.func134.trans (congrArg some (by kernel_rfl))
 f302:=Tryz.func153.trans (congrArg some (by kernel_rfl))
 f303:=Tryz.func154.trans (congrArg some (by kernel_rfl))
 f304:=Tryz.func155.trans (congrArg some (by kernel_rfl))
 f305:=Tryz.func156.trans (congrArg some (by kernel_rfl))
 f306:=Tryz.func157.trans (congrArg some (by kernel_rfl))
 f307:=Tryz.func158.trans (congrArg some (by kernel_rfl))
 f308:=Tryz.func159.trans (congrArg some (by kernel_rfl))
 f309:=Tryz.func160.trans (congrArg some (by kernel_rfl))
 f310:=Tryz.func161.trans (congrArg some (by kernel_rfl))
 f329:=Tryz.func147.trans (congrArg some (by kernel_rfl))
 f330:=Tryz.func148.trans (congrArg some (by kernel_rfl))
 f333:=Tryz.func172.trans (congrArg some (by kernel_rfl))
 f334:=Tryz.func173.trans (congrArg some (by kernel_rfl))
 f335:=Tryz.func174.trans (congrArg some (by kernel_rfl))
 f336:=Tryz.func129.trans (congrArg some (by kernel_rfl))
 f344:=Tryz.func177.trans (congrArg some (by kernel_rfl))
 t0:=Tryz.underlying0
 a0:=Tryz.isAgg0
 z0:=Tryz.sizeOf0
 v0:=Tryz.zeroValue0
 t3:=Tryz.underlying3
 a3:=Tryz.isAgg3
 z3:=Tryz.sizeOf3
 v3:=Tryz.zeroValue3
 t4:=Tryz.underlying4
 a4:=Tryz.isAgg4
 z4:=Tryz.sizeOf4
 v4:=Tryz.zeroValue4
 t5:=Tryz.underlying5
 a5:=Tryz.isAgg5
 z5:=Tryz.sizeOf5
 v5:=Tryz.zeroValue5
 t9:=Tryz.underlying9
 a9:=Tryz.isAgg9
 z9:=Tryz.sizeOf9
 v9:=Tryz.zeroValue9
 t31:=Tryz.underlying46
 a31:=Tryz.isAgg46
 z31:=Tryz.sizeOf46
 v31:=Tryz.zeroValue46
 t46:=Tryz.underlying144
 a46:=Tryz.isAgg144
 z46:=Tryz.sizeOf144
 v46:=Tryz.zeroValue144
 t51:=Tryz.underlying190
 a51:=Tryz.isAgg190
 z51:=Tryz.sizeOf190
 v51:=Tryz.zeroValue190
 t53:=Tryz.underlying150
 a53:=Tryz.isAgg150
 z53:=Tryz.sizeOf150
 v53:=Tryz.zeroValue150
 t131:=Tryz.underlying187
 a131:=Tryz.isAgg187
 z131:=Tryz.sizeOf187
 v131:=Tryz.zeroValue187
 t182:=Tryz.underlying182
 a182:=Tryz.isAgg182
 z182:=Tryz.sizeOf182
 v182:=Tryz.zeroValue182
 t183:=Tryz.underlying183
 a183:=Tryz.isAgg183
 z183:=Tryz.sizeOf183
 v183:=Tryz.zeroValue183
 t218:=Tryz.underlying213
 a218:=Tryz.isAgg213
 z218:=Tryz.sizeOf213
 v218:=Tryz.zeroValue213
 t222:=Tryz.underlying217
 a222:=Tryz.isAgg217
 z222:=Tryz.sizeOf217
 v222:=Tryz.zeroValue217
 t228:=Tryz.underlying233
 a228:=Tryz.isAgg233
 z228:=Tryz.sizeOf233
 v228:=Tryz.zeroValue233
 t229:=Tryz.underlying64
 a229:=Tryz.isAgg64
 z229:=Tryz.sizeOf64
 v229:=Tryz.zeroValue64 }
open Go.Sort Go.RowKit in
theorem Tryz.slices_Sort_string (blk off cap:Nat) (ss:List (List UInt8)) (w:World) (hH:Holds encStr w blk off ss.toArray) (hblk:blk<w.heap.size) (hsz:ss.length<4611686018427387904) :
 Calls Tryz.prog 97 #[.slice (some ⟨blk,off,none⟩) ss.length cap] w fun e w' =>
  e=.returned (.tuple #[])/\∃ n os,w'=grow (putRow encStr (Sort.ahead w n) blk off (ss.mergeSort fun x y=>decide (x<=y)).toArray) os:=Any.slices_Sort_string Tryz.lays190 blk off cap ss w hH hblk hsz
open Go.RowKit Go.Sort in
theorem Tryz.slices_Sort_string_none (p:Option Addr) (cap:Nat) (w:World) :
 Calls Tryz.prog 97 #[.slice p 0 cap] w fun e w'=>e=.returned (.tuple #[])/\w'=w:=Any.slices_Sort_string_none Tryz.lays190 p cap w
end Go.Proofs
namespace Go.Proofs.YtobihfefmlgaoaaGreat.Av
open Go Go.Sort
variable {L:List Blk} {K:afC}
abbrev aF (xs:List (List UInt8)):List AV:=xs.map AV.str
theorem Qz {xs:List (List UInt8)} {sep:List UInt8} {cap:Option Nat} (hn:xs.length<=1100000) (hl:(Lib.join xs sep).length<=140737488355328) (h:K (.str (Lib.join xs sep)) L) :
  afB 82 [.sl (aF xs) xs.length cap,.str sep] L K :=
 mL Tryz.func82 rfl (by kernel_rfl) (fun w0 S0 E w vs hR hv=>by
  simp only [VRL,VR] at hv;obtain ⟨_,_,rfl,⟨p,c,rfl,hle,_,hp⟩,_,_,rfl,rfl,rfl⟩:=hv;by_cases hx:xs=[]
  ·subst hx;exact (Tryz.strings_Join_none p c ⟨⟨sep⟩⟩ w).mono fun e w' ⟨he,hw⟩=>⟨_,he,by simp [VR,Lib.join],by subst hw;exact Vc.refl _⟩
  ·rcases hp with ⟨e0,_⟩|⟨b,o,rfl,hcells⟩
   ·exact absurd (ahX.1 e0) hx
   ·have hmem:∀ (j:Nat) x,(xs.map fun s=>(⟨⟨s⟩⟩:ByteArray))[j]?=some x->w.cell? ⟨b,o+j,none⟩=some (.string x):=fun j x hj=>by
     rw [ait] at hj;rcases hxs:xs[j]? with _|s
     ·rw [hxs] at hj;cases hj
     ·rw [hxs] at hj;simp only [ahM,aho] at hj;subst hj;obtain ⟨v,g1,g2⟩:=hcells.get (i:=j) (a:=.str s) (by rw [ait,hxs];rfl);simp only [VR] at g2;subst g2;exact hR.mem _ _ _ g1
    have hb:b<w.heap.size:=by
     have hx0:0<xs.length:=ah8.2 hx;have h0:=hmem 0 ⟨⟨xs[0]⟩⟩ (by rw [ait,ahB hx0];rfl);rcases ahT b w.heap.size with g|g
     ·exact g
     ·simp [World.cell?,ajC g] at h0
    have hmm:(xs.map fun s=>(⟨⟨s⟩⟩:ByteArray)).map (·.data.toList)=xs:=by rw [ahS];exact List.map_id'' (fun _=>rfl) xs
    have key:=Tryz.strings_Join b o c (xs.map fun s=>(⟨⟨s⟩⟩:ByteArray)) ⟨⟨sep⟩⟩ w hmem hb (by rw [ahF];omega) (by rw [ahF];exact hle) (by rw [hmm];exact hl);rw [hmm] at key;simp only [ahF] at key;exact key.mono fun e w' ⟨he,hbel⟩=>⟨_,he,by simp [VR],⟨fun b hb=>hbel.block b hb,hbel.size,hbel.os,hbel.tape,hbel.output⟩⟩) h
theorem Rel.putStrs {w0:World} {S0:SB} {E:Env} {L:List Blk} {w:World} (h:Rel w0 S0 E L w) {i:Nat} {xs d:List (List UInt8)} {rest:List AV} {c:Loc} (hi:L[i]?=some (.cells (aF xs++rest))) (hc:E.loc i=some c) (hd:d.length=xs.length) (q:Nat) :
  Rel w0 S0 E (L.set i (.cells (aF d++rest))) (putRow encStr (Sort.ahead w q) c.blk c.off d.toArray):=by
 obtain ⟨c',cs,ty,fr,h1,h2,h3,h4,h5,h6⟩:=h.blk i _ hi;rw [hc] at h1;cases h1;have hlt:c.blk<w.heap.size:=(ah4.1 h2).1;have e1:(putRow encStr (Sort.ahead w q) c.blk c.off d.toArray).heap[c.blk]?=some (.cells (putCells encStr c.off d.toArray cs) ty fr):=by
  simp [putRow,mapBlock,Sort.ahead,ai8,h2,onCells]
 have hlen:(aF xs++rest).length=xs.length+rest.length:=by simp
 refine h.turn (k':=.cells (aF d++rest)) hi rfl hc (by simp) (fun b hb=>?_) rfl rfl rfl ⟨c,_,ty,fr,hc,e1,by simp [putCells,h3],?_,fun j a ha=>?_,h6⟩ (fun _ _ e=>by cases e)
 ·have:c.blk≠b:=fun e=>hb e.symm
  simp [putRow,mapBlock,Sort.ahead,ai8,this]
 ·rw [hlen] at h4;simp only [ahy,ahF,hd];omega
 ·rw [hlen] at h4;have hj:j<d.length+rest.length:=by
   have:=(ahm.1 ha).1;simpa using this
  have hcs:c.off+j<cs.size:=by omega
  have ep:(putCells encStr c.off d.toArray cs)[c.off+j]?=some (if c.off<=c.off+j/\c.off+j<c.off+d.length then encStr (d.toArray[c.off+j - c.off]!) else cs[c.off+j]):=by
   simp [putCells,hcs]
  by_cases hjd:j<d.length
  ·have ea:a=.str d[j]:=by
    rw [ahq (by simpa using hjd)] at ha;simpa [hjd] using ha.symm
   subst ea;refine ⟨_,ep,?_⟩;rw [if_pos (by omega),show c.off+j - c.off=j by omega];simp [VR,encStr,hjd]
  ·have ha':(aF xs++rest)[j]?=some a:=by
    rw [ahu (by simp;omega)] at ha ⊢;simpa [hd] using ha
   obtain ⟨v,g1,g2⟩:=h5 j a ha';refine ⟨v,?_,g2⟩;rw [ep,if_neg (by omega),<- g1];simp [hcs]
theorem Tq {w0:World} {S0:SB} {E:Env} {L:List Blk} {w:World} (h:Rel w0 S0 E L w) {i:Nat} {xs:List (List UInt8)} {rest:List AV} {c:Loc} (hi:L[i]?=some (.cells (aF xs++rest))) (hc:E.loc i=some c) :
  Holds encStr w c.blk c.off xs.toArray/\c.blk<w.heap.size:=by
 obtain ⟨c',cs,ty,fr,h1,h2,h3,h4,h5,h6⟩:=h.blk i _ hi;rw [hc] at h1;cases h1;refine ⟨fun j hj=>?_,(ah4.1 h2).1⟩;have hj':j<xs.length:=by simpa using hj
 obtain ⟨v,g1,g2⟩:=h5 j (.str xs[j]) (by rw [ahq (by simpa using hj')];simp [hj']);simp only [VR] at g2;subst g2;refine ⟨by simp [World.cell?,encStr,h2,g1,hj'],?_⟩;have h7:=h6 (c.off+j) (by omega) (by simp only [ahy,ahF] at h4;omega);simp only [World.frozen?,h2];obtain ⟨f1,f2⟩:=fr;simp only at h7;simp only [aj9,decide_eq_false_iff_not];omega
theorem jM {P:Program} {f:FuncId} {fn:Func} (hf:P.funcs[f]?=some fn) (hb:fn.body.isSome=true) (hn:(fn.name == "runtime.NumGoroutine")=false) (args:Array Value) (w:World):(callFunc f args).run P w=.ok (.enter f args) w:=by
 simp only [callFunc,ahv,run_program,ahw,hf,hn];cases h:fn.body with
 | none=>simp [h] at hb
 | some c=>simp
def dR (xs:List (List UInt8)):List (List UInt8):=xs.mergeSort fun x y=>decide (x<=y)
theorem ad4 {xs:List (List UInt8)} {i:Nat} {cp:Option Nat} {rest:List AV} (hx:xs≠[]) (hn:xs.length<=1100000) (hL:L[i]?=some (.cells (aF xs++rest))) (h:K (.tup []) (L.set i (.cells (aF (dR xs)++rest)))) :
  afB 97 [.lsl i 0 xs.length cp 1] L K:=fun w0 S0 E w vs hR hv=>by
 simp only [VRL,VR] at hv;obtain ⟨_,_,rfl,⟨c,rc,d,hc,rfl,hd,hle,_,_⟩,rfl⟩:=hv;have hpos:0<xs.length:=ah8.2 hx;have hd':d=c.off:=by have:=hd (by omega);omega
 subst hd';obtain ⟨hH,hlt⟩:=Tq hR hL hc;refine .inl ⟨jM Tryz.func97 rfl (by kernel_rfl) _ _,(Tryz.slices_Sort_string c.blk c.off rc xs w hH hlt (by omega)).mono ?_⟩;rintro e w' ⟨rfl,q,os,rfl⟩;have r1:=hR.putStrs hL hc (d:=dR xs) (by simp [dR]) q;refine ⟨E,_,_,_,rfl,.refl E,h,by simp [VR,VRL],r1.grown ?_⟩;exact ⟨fun b hb=>aj6 hb,by simp [grow],rfl,rfl,rfl⟩
theorem aci {cap:Option Nat} (h:K (.tup []) L):afB 97 [.sl [] 0 cap] L K :=
 mL Tryz.func97 rfl (by kernel_rfl) (fun w0 S0 E w vs hR hv=>by
  simp only [VRL,VR] at hv;obtain ⟨_,_,rfl,⟨p,c,rfl,_⟩,rfl⟩:=hv;exact (Tryz.slices_Sort_string_none p c w).mono fun e w' ⟨he,hw⟩=>⟨_,he,by simp [VR,VRL],by subst hw;exact Vc.refl _⟩) h
theorem aeF {xs:List (List UInt8)} {sep:List UInt8} {i:Nat} {cp:Option Nat} (hx:xs≠[]) (hn:xs.length<=1100000) (hl:(Lib.join xs sep).length<=140737488355328) (hL:L[i]?=some (.cells (aF xs))) (h:K (.str (Lib.join xs sep)) L) :
  afB 82 [.lsl i 0 xs.length cp 1,.str sep] L K:=fun w0 S0 E w vs hR hv=>by
 simp only [VRL,VR] at hv;obtain ⟨_,_,rfl,⟨c,rc,d,hc,rfl,hd,hle,_,_⟩,_,_,rfl,rfl,rfl⟩:=hv;have hpos:0<xs.length:=ah8.2 hx;have hd':d=c.off:=by have:=hd (by omega);omega
 subst hd';obtain ⟨hH,hlt⟩:=Tq (rest:=[]) hR (by simpa using hL) hc;have hmem:∀ (j:Nat) x,(xs.map fun s=>(⟨⟨s⟩⟩:ByteArray))[j]?=some x->w.cell? ⟨c.blk,c.off+j,none⟩=some (.string x):=fun j x hj=>by
  have hjl:j<xs.length:=by have:=(ahm.1 hj).1;simpa using this
  have e:=(hH j (by simpa using hjl)).1;rw [ait,ahB hjl] at hj;simp only [ahM,aho] at hj;subst hj;rw [e];simp [encStr,hjl]
 have hmm:(xs.map fun s=>(⟨⟨s⟩⟩:ByteArray)).map (·.data.toList)=xs:=by rw [ahS];exact List.map_id'' (fun _=>rfl) xs
 have key:=Tryz.strings_Join c.blk c.off rc (xs.map fun s=>(⟨⟨s⟩⟩:ByteArray)) ⟨⟨sep⟩⟩ w hmem hlt (by rw [ahF];omega) (by rw [ahF];exact hle) (by rw [hmm];exact hl);rw [hmm] at key;simp only [ahF] at key;refine .inl ⟨jM Tryz.func82 rfl (by kernel_rfl) _ _,key.mono ?_⟩;rintro e w' ⟨rfl,hbel⟩;exact ⟨E,_,_,_,rfl,.refl E,h,by simp [VR],hR.grown ⟨fun b hb=>hbel.block b hb,hbel.size,hbel.os,hbel.tape,hbel.output⟩⟩
end Go.Proofs.YtobihfefmlgaoaaGreat.Av
set_option maxRecDepth 100000
namespace Go.Proofs.YtobihfefmlgaoaaGreat.Av
open Go
def RT:LSO:=[Ao 4]
def RS:LSO:=[Ap 5]
def RR:LSO:=[Aa 11 0,Ae 12 11,Ac 13 0]
def RQ:LSO:=[Ak 14 13 12]
def RP:LSO:=[Al 15 1 11 13,Ab 16 1 15,Aa 7 16]
def RO:LSO:=[Ap 8]
def RN:LSO:=[Aa 17 7,Ae 18 17,Ac 19 0]
def RM:LSO:=[Ak 20 19 18]
def RL:LSO:=[Al 21 2 17 19,As 22 2 21,Bq 10,Af 2 10 22]
def RK:LSO:=[Aa 23 1]
def PM:List (am×Kd) :=
 [Aw 24 0 10,Ax 25 1 24 0 0,AS 26 94 25 0 0,Aw 27 1 10,Ax 28 1 27 0 0]
def Nm:List am :=
 [⟨(some 29),(.call 95 [(tm 28)]),none⟩,⟨(some 30),(.build [(.str []),(.str [])] [(0,(1,(tm 26))),(1,(1,(tm 29)))]),none⟩,⟨none,(.store 2 (tm 10) (tm 30)),none⟩]
def PL:List (am×Kd) :=
 [Az 31 8,Aw 32 0 10,Ax 33 1 32 0 0,od 34 (.bin .add (tm 33) (.av (.str [61]))) .pure,Aw 35 1 10,Ax 36 1 35 0 0,AS 37 96 36 0 0,BU 38 34 37,
 od 39 (.bslice false 1 1 [(.str [])] [(0,(1,(tm 38)))]) (.read 0 0)]
def Nl:List am :=
 [⟨(some 40),(.app 2 1 16 [(.str [])] (tm 31) (tm 39)),none⟩,⟨(some 8),(.mv (tm 40)),none⟩]
def PK:LSO:=[Ah 41 19 1,Aa 19 41]
def PJ:LSO:=[Aa 42 1]
def PI:LSO:=[Aa 43 8,Aj 44 97 43]
def PH:LSO:=[Aa 45 5,Aa 46 8,o1 47 (.call 82 [(tm 46),(.av (.str [43]))]),Bb 48 47,B5 49 45 48,Aa 5 49]
def PG:LSO:=[Ah 50 13 1,Aa 13 50]
def PF:LSO:=[Aa 51 5,o1 52 (.call 82 [(tm 51),(.av (.str [44]))]),Aa 4 52]
def yJ:aS:=⟨53,(.seq (.sreg RT [])
 (.seq (.sreg RS [])
 (.seq (.seq (.sreg RR [])
 (.block 0 (.loop (.seq (.sreg RQ [])
 (.seq (.cond (tm 14) .skip
 (.exit 0))
 (.seq (.block 1 (.seq (.sreg RP Cq)
 (.seq (.sreg RO [])
 (.seq (.seq (.sreg RN [])
 (.block 2 (.loop (.seq (.sreg RM [])
 (.seq (.cond (tm 20) .skip
 (.exit 2))
 (.seq (.block 3 (.seq (.sreg RL Cq)
 (.seq (.seq (.sreg RK [])
 (.cond (tm 23) (.dregM PM Nm C7)
 .skip))
 (.dregM PL Nl CD))))
 (.sreg PK Cp)))))))
 (.seq (.seq (.sreg PJ [])
 (.cond (tm 42) (.sreg PI C0)
 .skip))
 (.sreg PH Ct))))))
 (.sreg PG Cp)))))))
 (.seq (.sreg PF Cq)
 .ret)))),[(.tmp 4)]⟩
attribute [push_cast] RT RS RR RQ RP RO RN RM RL RK PM Nm PL Nl PK PJ PI PH PG PF
theorem QJ:aT Tryz.prog (fun r i=>if r=11/\i=9 then 2 else 1) 57=some yJ.raw:=by kernel_rfl
attribute [push_cast] yJ
variable {L:List Blk} {K:afC}
set_option maxHeartbeats 8000000
set_option maxRecDepth 100000
def avT (key:Bool) (a:Ava):List UInt8:=if key=true then aH a.1++[61]++fY (bP a.2) else a.1++[61]++fY a.2
def cn (key:Bool) (r:Rdn):List UInt8:=Lib.join (if key=true then dR (r.map (avT key)) else r.map (avT key)) [43]
def aQ (key:Bool) (d:List Rdn):List UInt8:=Lib.join (d.map (cn key)) [44]
theorem OG (n:Nat):∀ (s:List UInt8) (i:Nat),(wrL n i s).length<=3 * s.length
 | [],_=>by simp [wrL]
 | c::s,i=>by
   have h1:=OG n s (i+1);have h2:=adW i n c;simp only [wrL,ahy,ahD];omega
theorem aaD (l:List (List UInt8)):AV.frzL (aF l)=aF l:=by
 rw [AV.frzL_eq,ahS];rfl
theorem Z7 {xs:List (List UInt8)} {sep:List UInt8} {i n:Nat} (hx:n=xs.length) (hn:xs.length<=1100000) (hl:(Lib.join xs sep).length<=140737488355328) (h:K (.str (Lib.join xs sep)) L) :
  afB 82 [.gsl (aF xs) n i 1,.str sep] L K:=by
 subst hx;exact dQ (by simpa only [AV.frzL,AV.frz,aaD] using Qz (cap:=none) hn hl h)
theorem XG {xs:List (List UInt8)} {sep:List UInt8} {i n:Nat} {cp:Option Nat} (he:n=xs.length) (hx:xs≠[]) (hn:xs.length<=1100000) (hl:(Lib.join xs sep).length<=140737488355328) (hL:L[i]?=some (.cells (aF xs))) (h:K (.str (Lib.join xs sep)) L) :
  afB 82 [.lsl i 0 n cp 1,.str sep] L K:=by
 subst he;exact aeF hx hn hl hL h
theorem ad2 {d:List Rdn} {cap:Option Nat} (hn:d.length<=1000) (hr:∀ r∈d,r.length<=1000/\∀ a∈r,a.1.length<=10000/\a.2.length<=10000) (hj1:∀ r∈d,(cn false r).length<=140737488355328) (hj2:(aQ false d).length<=140737488355328) (h:K (.str (aQ false d)) L) :
  afB 57 [.sl (d.map aw) d.length cap,.bool false] L K:=by
 replace h:=hid h;have hat:=hid (fun k=>@mw d k);replace hr:=hid hr;replace hj1:=hid hj1;have s4:∀ (W:List Blk) (j:Nat) (A:Blk),L.length<=j->(L++W).set j A=L++W.set (j - L.length) A:=fun W j A hj=>ahP _ _ hj
 replace s4:=hid s4;refine acg QJ ?_;refine bi (l:=[]) (n:=0) 5 1 rfl (ahQ 1).symm ?_;refine ah (fun n T' L'=>∃ (i:Nat) (all:List (List UInt8)) (Z:List Blk),n=d.length - i/\i<=d.length/\Hid (all=(d.take i).map (cn false))/\L'[L.length]?=some (.spare i 1)/\T'=[(13,.int .i64 (i:Int)),(12,.int .i64 d.length),(11,.sl (d.map aw) d.length cap),(5,.gsl (aF all) i L.length 1),(1,.bool false)]/\L'=L++Z) (CutS (b:=by simp)) ⟨0,[],[.spare 0 1],rfl,ahp _,hid rfl,by simp,rfl,rfl⟩ ?_;rintro _ _ _ ⟨i,all,X,rfl,hi,hall,ho,rfl,rfl⟩;by_cases hlt:i<d.length
 ·have g1:(i:Int)<(d.length:Int):=by omega
  have g2:=ace i (by omega);have e2:=hat.out i hlt;have hrm:d.getD i []∈d:=by rw [ahE,ahB hlt];exact ain _
  have hrl:=hr.out _ hrm;have hjr:=hj1.out _ hrm;obtain ⟨r,hri⟩:=aaR (d.getD i []);have htk:d.take (i+1)=d.take i++[r]:=by rw [ahK hlt,<- hri];simp [hlt]
  rw [hri] at e2 hrl hjr;clear hri hrm;obtain ⟨hrl1,hrl2⟩:=hrl;replace hrl2:=hid hrl2;replace htk:=hid htk;have hX:=(ahm.1 ho).1;rw [ahy] at hX;replace hX:=hid hX;refine wk ?_;refine ah (fun n T' L'=>∃ (k:Nat) (v:AV) (Z:List Blk),n=r.length - k/\k<=r.length/\X.length<=Z.length/\L'[L.length]?=some (.spare i 1)/\Hid ((v=.sl [] 0 (some 0)/\k=0)\/∃ j,(0<k/\L.length<j)/\v=.lsl j 0 k none 1/\L'[j]?=some (.cells (aF ((r.take k).map (avT false)))))/\T'=[(19,.int .i64 (k:Int)),(18,.int .i64 r.length),(17,aw r),(8,v),(13,.int .i64 (i:Int)),(12,.int .i64 d.length),(11,.sl (d.map aw) d.length cap),(5,.gsl (aF all) i L.length 1),(1,.bool false)]/\L'=L++Z) (CutS (b:=by simp)) ⟨0,_,X,rfl,ahp _,ahn _,ho,hid (.inl ⟨rfl,rfl⟩),rfl,rfl⟩ ?_;rintro _ _ _ ⟨k,v,Z,rfl,hk,hXZ,ho2,hv,rfl,rfl⟩;replace hXZ:=hid hXZ;by_cases hkl:k<r.length
  ·have g3:(k:Int)<(r.length:Int):=by omega
   have g4:=ace k (by omega);have e3:=fW hkl;have e4:k * 2+2<=(aN r).length:=by rw [cr];omega
   obtain ⟨⟨ty,va⟩,ha⟩:∃ a,r.getD k ([],[])=a:=⟨_,rfl⟩;have ham:(ty,va)∈r:=by rw [<- ha];simp [hkl]
   have htk2:(r.take (k+1)).map (avT false)=(r.take k).map (avT false)++[ty++61::fY va]:=by
    rw [ahK hkl];have:r[k]=(ty,va):=by rw [<- ha];simp [hkl]
    rw [this];simp [avT]
   rw [ha] at e3;simp only [oC] at e3;have hva:=hrl2.out _ ham;simp only at hva;have hva':va.length<=100000:=by omega
   have hwl:=OG va.length va 0;have b1:(ty.length:Int)+1<=9223372036854775807:=by omega
   have b2:(ty.length:Int)+1+((fY va).length:Int)<=9223372036854775807:=by unfold fY;omega
   clear hwl ha ham hva;replace htk2:=hid htk2;have q1:(k+1) * 16<=140737488355328:=by omega
   have q2:k+1<=140737488355328:=by omega
   have q3:k<=140737488355327:=by omega
   rcases hv.out with ⟨rfl,hk0⟩|⟨j,⟨hk1,hBj⟩,rfl,hj⟩
   ·replace hk0:=hid hk0;have kk1:=@hid _ (fun L K=>gE hva' (L:=L) (K:=K));refine wk ?_;refine aq _ _ _ (by omega) (CutL (b:=?_)) ⟨k+1,.lsl (L.length+(Z.length+1)) 0 1 none 1,_,rfl,hkl,?_,?_,hid (.inr ⟨L.length+(Z.length+1),⟨by omega,by omega⟩,by rw [hk0.out],?_⟩),rfl,rfl⟩
    ·have:=hXZ.out;simp;omega
    ·have:=hXZ.out;simp;omega
    ·rw [<- ahz,ahq (ahm.1 ho2).1];exact ho2
    ·rw [qi,qi,htk2.out,hk0.out];rfl
   ·obtain ⟨cur,hcur⟩:=aaR ((r.take k).map (avT false));have hcl:cur.length=k:=by rw [<- hcur];simp;omega
    rw [hcur] at hj;have f1:(L++(Z++[Blk.cells [.str ty,.str va]]))[j]?=some (.cells (aF cur)):=by
     rw [<- ahz,ahq (ahm.1 hj).1];exact hj
    have f2:(L++(Z++[Blk.cells [.str ty,.str va]])).set j .dead=L++(Z++[Blk.cells [.str ty,.str va]]).set (j - L.length) .dead:=s4.out _ _ _ (by omega);have f3:k<=(aF cur).length:=by simp [hcl]
    have f4:(aF cur).take k=aF cur:=ah0 (by simp [hcl]);replace hcur:=hid hcur;replace hcl:=hid hcl;have hjL:=hid (show j≠L.length by omega);have f2':=hid f2
    repeat' first
     | refine cP ?_
     | (first|refine bY (by kernel_rfl) ?_|refine bj (by kernel_rfl) ?_|refine bm ?_|refine fy ?_|refine cT (fun _=>?_)|refine a8 ?_|refine b9 ?_|refine gE hva' ?_|refine cA (gE hva' ⟨rfl,rfl⟩) (gE hva' ⟨rfl,rfl⟩) ?_|refine bf (gE hva' ⟨rfl,rfl⟩) ?_)
       refine sm ?_
     | (first|refine bU (by kernel_rfl) ?_|refine bT ?_|refine bZ ?_|refine cY (a7 ?_))
       refine sl ?_
     | exact cU
     | first|apply cV|apply bV|apply cW|apply bW|apply cX|apply bX
     | refine br ?_
     | first|refine bp rfl ?_|refine bq rfl ?_|refine aW rfl ?_ ?_|refine bz rfl (fun _=>?_) (fun _=>?_)|refine bw rfl (fun _=>?_) (fun _=>?_)
     | ((first|refine aV (fun _=>?_) (fun _=>?_)|refine a6 (fun _=>?_) (fun _=>?_))<;>try refine sm ?_)
     | refine And.intro trivial ?_
     | refine And.intro (by omega) ?_
     | refine bA rfl (fun _=>?_) (fun _=>?_)
     | refine And.intro ?_ ?_
    ·rw [hcl.out];exact ahn _
    ·have hA:((Z++[Blk.cells [.str ty,.str va]]).set (j - L.length) .dead).length=Z.length+1:=by simp
     refine aq _ _ _ (by omega) (CutL (b:=?_)) ⟨k+1,.lsl (L.length+(Z.length+1)) 0 (k+1) none 1,_,rfl,hkl,?_,?_,hid (.inr ⟨L.length+(Z.length+1),⟨by omega,by omega⟩,rfl,?_⟩),rfl,rfl⟩
     ·have:=hXZ.out;simp;omega
     ·have:=hXZ.out;simp;omega
     ·rw [<- ahz,<- f2'.out,ahq (by simp),ahL hjL.out,<- ahz,ahq (ahm.1 ho2).1];exact ho2
     ·rw [qi,<- hA,Wy,htk2.out,hcur.out];simp
  ·have hke:k=r.length:=by omega
   subst hke;have g3:¬ (r.length:Int)<(r.length:Int):=by omega
   have q4:(i+1) * 16<=140737488355328:=by omega
   have q5:i+1<=140737488355328:=by omega
   have hrow:cn false r=Lib.join (r.map (avT false)) [43]:=by simp [cn]
   rw [hrow] at hjr;have htk3:(d.take (i+1)).map (cn false)=all++[Lib.join (r.map (avT false)) [43]]:=by
    rw [htk.out,ahN,<- hall.out,<- hrow];rfl
   have f0:(L++Z).set L.length (.spare (i+1) 1)=L++Z.set 0 (.spare (i+1) 1):=by rw [s4.out _ _ _ (ahn _),ajb]
   have f1:(L++Z.set 0 (.spare (i+1) 1))[L.length]?=some (.spare (i+1) 1):=by
    rw [<- f0,ahU,if_pos rfl,if_pos (ahm.1 ho2).1]
   replace hrow:=hid hrow;replace htk3:=hid htk3;replace f1:=hid f1;rcases hv.out with ⟨rfl,hk0⟩|⟨j,⟨hk1,hBj⟩,rfl,hj⟩
   ·have hr0:r=[]:=ahX.1 hk0;replace hk0:=hid hk0;refine wk ?_;refine Qz (xs:=[]) (by simp) (by simp [Lib.join]) ?_;refine sk ?_;refine wk ?_;rw [show aF all++[AV.str (Lib.join [] [43])]=aF (all++[Lib.join [] [43]]) by simp];exact aq _ _ _ (by omega) (CutL (b:=by have:=hX.out;have h0:=(ahm.1 ho2).1;simp at h0 ⊢;omega)) ⟨i+1,all++[Lib.join [] [43]],_,rfl,hlt,hid (by rw [htk3.out,hr0];rfl),f1.out,rfl,rfl⟩
   ·rw [ahA] at hj;by_cases hr0:r=[]
    ·rw [hr0] at hk1;cases hk1
    ·refine wk ?_;refine XG (xs:=r.map (avT false)) (by simp) (by simpa using hr0) (by simp;omega) hjr (by simpa using hj) ?_;refine sk ?_;refine wk ?_;rw [show aF all++[AV.str (Lib.join (r.map (avT false)) [43])]=aF (all++[Lib.join (r.map (avT false)) [43]]) by simp];exact aq _ _ _ (by omega) (CutL (b:=by have h0:=(ahm.1 ho2).1;simp at h0 ⊢;omega)) ⟨i+1,all++[Lib.join (r.map (avT false)) [43]],_,rfl,hlt,hid htk3.out.symm,f1.out,rfl,rfl⟩
 ·have hke:i=d.length:=by omega
  subst hke;have g1:¬ (d.length:Int)<(d.length:Int):=by omega
  have e:=hall.out;rw [ahA] at e;have h':=h.out;simp only [aQ] at h' hj2;replace h':=hid h';clear hall;subst e;refine wk ?_;refine Z7 (by simp) (by simp;omega) hj2 ?_;refine sk ?_;refine wk ?_;exact ab rfl h'.out
theorem YG (s:List UInt8):(bQ s).length<=s.length:=by
 have:=qo s s.length
 rwa [ahA] at this
theorem K3 (s:List UInt8):(bP s).length<=s.length:=by
 have h1:=YG (aH s);have h2:(aH s).length=s.length:=by simp [aH]
 unfold bP du;split
 ·simp only [List.length_dropLast];omega
 ·omega
theorem ach {xs:List (List UInt8)} {i n:Nat} {cp:Option Nat} (he:n=xs.length) (hx:xs≠[]) (hn:xs.length<=1100000) (hL:L[i]?=some (.cells (aF xs))) (h:K (.tup []) (L.set i (.cells (aF (dR xs))))) :
  afB 97 [.lsl i 0 n cp 1] L K:=by
 subst he;exact ad4 (rest:=[]) hx hn (by simpa using hL) (by simpa using h)
theorem Vh (xs:List (List UInt8)):(dR xs).length=xs.length:=by simp [dR]
theorem ZE {d:List Rdn} {cap:Option Nat} (hn:d.length<=1000) (hr:∀ r∈d,r.length<=1000/\∀ a∈r,a.1.length<=10000/\a.2.length<=10000) (hj1:∀ r∈d,(cn true r).length<=140737488355328) (hj2:(aQ true d).length<=140737488355328) (h:K (.str (aQ true d)) L) :
  afB 57 [.sl (d.map aw) d.length cap,.bool true] L K:=by
 replace h:=hid h;have hat:=hid (fun k=>@mw d k);replace hr:=hid hr;replace hj1:=hid hj1;have s4:∀ (W:List Blk) (j:Nat) (A:Blk),L.length<=j->(L++W).set j A=L++W.set (j - L.length) A:=fun W j A hj=>ahP _ _ hj
 replace s4:=hid s4;refine acg QJ ?_;refine bi (l:=[]) (n:=0) 5 1 rfl (ahQ 1).symm ?_;refine ah (fun n T' L'=>∃ (i:Nat) (all:List (List UInt8)) (Z:List Blk),n=d.length - i/\i<=d.length/\Hid (all=(d.take i).map (cn true))/\L'[L.length]?=some (.spare i 1)/\T'=[(13,.int .i64 (i:Int)),(12,.int .i64 d.length),(11,.sl (d.map aw) d.length cap),(5,.gsl (aF all) i L.length 1),(1,.bool true)]/\L'=L++Z) (CutS (b:=by simp)) ⟨0,[],[.spare 0 1],rfl,ahp _,hid rfl,by simp,rfl,rfl⟩ ?_;rintro _ _ _ ⟨i,all,X,rfl,hi,hall,ho,rfl,rfl⟩;by_cases hlt:i<d.length
 ·have g1:(i:Int)<(d.length:Int):=by omega
  have g2:=ace i (by omega);have e2:=hat.out i hlt;have hrm:d.getD i []∈d:=by rw [ahE,ahB hlt];exact ain _
  have hrl:=hr.out _ hrm;have hjr:=hj1.out _ hrm;obtain ⟨r,hri⟩:=aaR (d.getD i []);have htk:d.take (i+1)=d.take i++[r]:=by rw [ahK hlt,<- hri];simp [hlt]
  rw [hri] at e2 hrl hjr;clear hri hrm;obtain ⟨hrl1,hrl2⟩:=hrl;replace hrl2:=hid hrl2;replace htk:=hid htk;have hX:=(ahm.1 ho).1;rw [ahy] at hX;replace hX:=hid hX;refine wk ?_;refine ah (fun n T' L'=>∃ (k:Nat) (v:AV) (Z:List Blk),n=r.length - k/\k<=r.length/\X.length<=Z.length/\L'[L.length]?=some (.spare i 1)/\Hid ((v=.sl [] 0 (some 0)/\k=0)\/∃ j,(0<k/\L.length<j)/\v=.lsl j 0 k none 1/\L'[j]?=some (.cells (aF ((r.take k).map (avT true)))))/\T'=[(19,.int .i64 (k:Int)),(18,.int .i64 r.length),(17,aw r),(8,v),(13,.int .i64 (i:Int)),(12,.int .i64 d.length),(11,.sl (d.map aw) d.length cap),(5,.gsl (aF all) i L.length 1),(1,.bool true)]/\L'=L++Z) (CutS (b:=by simp)) ⟨0,_,X,rfl,ahp _,ahn _,ho,hid (.inl ⟨rfl,rfl⟩),rfl,rfl⟩ ?_;rintro _ _ _ ⟨k,v,Z,rfl,hk,hXZ,ho2,hv,rfl,rfl⟩;replace hXZ:=hid hXZ;by_cases hkl:k<r.length
  ·have g3:(k:Int)<(r.length:Int):=by omega
   have g4:=ace k (by omega);have e3:=fW hkl;have e4:k * 2+2<=(aN r).length:=by rw [cr];omega
   obtain ⟨⟨ty,va⟩,ha⟩:∃ a,r.getD k ([],[])=a:=⟨_,rfl⟩;have ham:(ty,va)∈r:=by rw [<- ha];simp [hkl]
   have htk2:(r.take (k+1)).map (avT true)=(r.take k).map (avT true)++[aH ty++61::fY (bP va)]:=by
    rw [ahK hkl];have:r[k]=(ty,va):=by rw [<- ha];simp [hkl]
    rw [this];simp [avT]
   rw [ha] at e3;simp only [oC] at e3;have hva:=hrl2.out _ ham;simp only at hva;have hpl:=K3 va;have hva':(bP va).length<=100000:=by omega
   have hva2:(va.length:Int)<=100000:=by omega
   have hty2:(ty.length:Int)<=100000:=by omega
   have hwl:=OG (bP va).length (bP va) 0;have hfl:(aH ty).length=ty.length:=by simp [aH]
   have b1:((aH ty).length:Int)+1<=9223372036854775807:=by omega
   have b2:((aH ty).length:Int)+1+((fY (bP va)).length:Int)<=9223372036854775807:=by unfold fY;omega
   clear hwl ha ham hva hfl hpl;replace htk2:=hid htk2;have q1:(k+1) * 16<=140737488355328:=by omega
   have q2:k+1<=140737488355328:=by omega
   have q3:k<=140737488355327:=by omega
   rcases hv.out with ⟨rfl,hk0⟩|⟨j,⟨hk1,hBj⟩,rfl,hj⟩
   ·replace hk0:=hid hk0;have kk1:=@hid _ (fun L K=>KE hty2 (L:=L) (K:=K));have kk2:=@hid _ (fun L K=>TA hva2 (L:=L) (K:=K));have kk3:=@hid _ (fun L K=>gE hva' (L:=L) (K:=K));refine wk ?_;refine aq _ _ _ (by omega) (CutL (b:=?_)) ⟨k+1,.lsl (L.length+(Z.length+1)) 0 1 none 1,_,rfl,hkl,?_,?_,hid (.inr ⟨L.length+(Z.length+1),⟨by omega,by omega⟩,by rw [hk0.out],?_⟩),rfl,rfl⟩
    ·have:=hXZ.out;simp;omega
    ·have:=hXZ.out;simp;omega
    ·rw [<- ahz,ahq (ahm.1 ho2).1];exact ho2
    ·rw [qi,qi,htk2.out,hk0.out];rfl
   ·obtain ⟨cur,hcur⟩:=aaR ((r.take k).map (avT true));have hcl:cur.length=k:=by rw [<- hcur];simp;omega
    rw [hcur] at hj;have f1:(L++(Z++[Blk.cells [.str (aH ty),.str (bP va)]]))[j]?=some (.cells (aF cur)):=by
     rw [<- ahz,ahq (ahm.1 hj).1];exact hj
    have f2:(L++(Z++[Blk.cells [.str (aH ty),.str (bP va)]])).set j .dead=L++(Z++[Blk.cells [.str (aH ty),.str (bP va)]]).set (j - L.length) .dead:=s4.out _ _ _ (by omega);have f3:k<=(aF cur).length:=by simp [hcl]
    have f4:(aF cur).take k=aF cur:=ah0 (by simp [hcl]);replace hcur:=hid hcur;replace hcl:=hid hcl;have hjL:=hid (show j≠L.length by omega);have f2':=hid f2
    repeat' first
     | refine cP ?_
     | (first|refine bY (by kernel_rfl) ?_|refine bj (by kernel_rfl) ?_|refine bm ?_|refine fy ?_|refine cT (fun _=>?_)|refine a8 ?_|refine b9 ?_|refine KE hty2 ?_|refine TA hva2 ?_|refine gE hva' ?_|refine cA (KE hty2 ⟨rfl,rfl⟩) (KE hty2 ⟨rfl,rfl⟩) ?_|refine cA (TA hva2 ⟨rfl,rfl⟩) (TA hva2 ⟨rfl,rfl⟩) ?_|refine cA (gE hva' ⟨rfl,rfl⟩) (gE hva' ⟨rfl,rfl⟩) ?_|refine bf (KE hty2 ⟨rfl,rfl⟩) ?_|refine bf (TA hva2 ⟨rfl,rfl⟩) ?_|refine bf (gE hva' ⟨rfl,rfl⟩) ?_)
       refine sm ?_
     | (first|refine bU (by kernel_rfl) ?_|refine bT ?_|refine bZ ?_|refine cY (a7 ?_))
       refine sl ?_
     | exact cU
     | first|apply cV|apply bV|apply cW|apply bW|apply cX|apply bX
     | refine br ?_
     | first|refine bp rfl ?_|refine bq rfl ?_|refine aW rfl ?_ ?_|refine bz rfl (fun _=>?_) (fun _=>?_)|refine bw rfl (fun _=>?_) (fun _=>?_)
     | ((first|refine aV (fun _=>?_) (fun _=>?_)|refine a6 (fun _=>?_) (fun _=>?_))<;>try refine sm ?_)
     | refine And.intro trivial ?_
     | refine And.intro (by omega) ?_
     | refine bA rfl (fun _=>?_) (fun _=>?_)
     | refine And.intro ?_ ?_
    ·rw [hcl.out];exact ahn _
    ·have hA:((Z++[Blk.cells [.str (aH ty),.str (bP va)]]).set (j - L.length) .dead).length=Z.length+1:=by simp
     refine aq _ _ _ (by omega) (CutL (b:=?_)) ⟨k+1,.lsl (L.length+(Z.length+1)) 0 (k+1) none 1,_,rfl,hkl,?_,?_,hid (.inr ⟨L.length+(Z.length+1),⟨by omega,by omega⟩,rfl,?_⟩),rfl,rfl⟩
     ·have:=hXZ.out;simp;omega
     ·have:=hXZ.out;simp;omega
     ·rw [<- ahz,<- f2'.out,ahq (by simp),ahL hjL.out,<- ahz,ahq (ahm.1 ho2).1];exact ho2
     ·rw [qi,<- hA,Wy,htk2.out,hcur.out];simp
  ·have hke:k=r.length:=by omega
   subst hke;have g3:¬ (r.length:Int)<(r.length:Int):=by omega
   have q4:(i+1) * 16<=140737488355328:=by omega
   have q5:i+1<=140737488355328:=by omega
   have hrow:cn true r=Lib.join (dR (r.map (avT true))) [43]:=by simp [cn]
   rw [hrow] at hjr;have htk3:(d.take (i+1)).map (cn true)=all++[Lib.join (dR (r.map (avT true))) [43]]:=by
    rw [htk.out,ahN,<- hall.out,<- hrow];rfl
   replace hrow:=hid hrow;replace htk3:=hid htk3;rcases hv.out with ⟨rfl,hk0⟩|⟨j,⟨hk1,hBj⟩,rfl,hj⟩
   ·have hr0:r=[]:=ahX.1 hk0;have f0:(L++Z).set L.length (.spare (i+1) 1)=L++Z.set 0 (.spare (i+1) 1):=by rw [s4.out _ _ _ (ahn _),ajb]
    have f1:(L++Z.set 0 (.spare (i+1) 1))[L.length]?=some (.spare (i+1) 1):=by
     rw [<- f0,ahU,if_pos rfl,if_pos (ahm.1 ho2).1]
    replace f1:=hid f1;replace hk0:=hid hk0;refine wk ?_;refine aci ?_;refine sk ?_;refine wk ?_;refine Qz (xs:=[]) (by simp) (by simp [Lib.join]) ?_;refine sk ?_;refine wk ?_;rw [show aF all++[AV.str (Lib.join [] [43])]=aF (all++[Lib.join [] [43]]) by simp];exact aq _ _ _ (by omega) (CutL (b:=by have:=hX.out;have h0:=(ahm.1 ho2).1;simp at h0 ⊢;omega)) ⟨i+1,all++[Lib.join [] [43]],_,rfl,hlt,hid (by rw [htk3.out,hr0];simp [dR]),f1.out,rfl,rfl⟩
   ·rw [ahA] at hj;have hr0:r≠[]:=fun e=>by rw [e] at hk1;cases hk1
    obtain ⟨xs,hxs⟩:=aaR (r.map (avT true));have hxl:r.length=xs.length:=by rw [<- hxs];simp
    have hxne:xs≠[]:=fun e=>hr0 (by have:=hxl;rw [e] at this;exact ahX.1 this)
    rw [hxs] at hj hjr htk3;have hsl:=Vh xs;have hjl:L.length+(j - L.length)=j:=by omega
    have f2:(L++Z).set j (.cells (aF (dR xs)))=L++Z.set (j - L.length) (.cells (aF (dR xs))):=s4.out _ _ _ (by omega);have f3:(L++Z.set (j - L.length) (.cells (aF (dR xs))))[j]?=some (.cells (aF (dR xs))):=by
     rw [<- f2,ahU,if_pos rfl,if_pos (ahm.1 hj).1]
    have ho3:(L++Z.set (j - L.length) (.cells (aF (dR xs))))[L.length]?=some (.spare i 1):=by
     rw [<- f2,ahL (by omega)];exact ho2
    clear ho2;replace hj:=hid hj;generalize hZ1:Z.set (j - L.length) (.cells (aF (dR xs)))=Z1 at f2 f3 ho3;have f0:(L++Z1).set L.length (.spare (i+1) 1)=L++Z1.set 0 (.spare (i+1) 1):=by rw [s4.out _ _ _ (ahn _),ajb]
    have f1:(L++Z1.set 0 (.spare (i+1) 1))[L.length]?=some (.spare (i+1) 1):=by
     rw [<- f0,ahU,if_pos rfl,if_pos (ahm.1 ho3).1]
    replace f1:=hid f1;replace f2:=hid f2;replace f3:=hid f3;replace hxs:=hid hxs;replace hxl:=hid hxl;replace hsl:=hid hsl;clear hZ1;replace hxne:=hid hxne;refine wk ?_;refine ach hxl.out hxne.out (by have:=hxl.out;omega) hj.out ?_;rw [f2.out];refine sk ?_;refine wk ?_;refine XG (xs:=dR xs) (by rw [hsl.out];exact hxl.out) (fun e=>hxne.out (by have:=hsl.out;rw [e] at this;exact ahX.1 this.symm)) (by have:=hxl.out;rw [hsl.out];omega) hjr f3.out ?_;refine sk ?_;refine wk ?_;rw [show aF all++[AV.str (Lib.join (dR xs) [43])]=aF (all++[Lib.join (dR xs) [43]]) by simp];exact aq _ _ _ (by omega) (CutL (b:=by have h0:=(ahm.1 ho3).1;simp at h0 ⊢;omega)) ⟨i+1,all++[Lib.join (dR xs) [43]],_,rfl,hlt,hid htk3.out.symm,f1.out,rfl,rfl⟩
 ·have hke:i=d.length:=by omega
  subst hke;have g1:¬ (d.length:Int)<(d.length:Int):=by omega
  have e:=hall.out;rw [ahA] at e;have h':=h.out;simp only [aQ] at h' hj2;replace h':=hid h';clear hall;subst e;refine wk ?_;refine Z7 (by simp) (by simp;omega) hj2 ?_;refine sk ?_;refine wk ?_;exact ab rfl h'.out
def KA (r:Rdn):Bool:=r.any fun a=>decide (4096<a.2.length)
def yA (d:List Rdn):Bool:=d.any KA
theorem VQ:∀ (t done:Rdn),dl done t=0->done.length<=8->(done++t).length<=8/\∀ a∈t,a.1.length<=32
 | [],done,_,h=>by simp;exact h
 | a::t,done,h,hd=>by
   simp only [dl] at h;split at h
   ·cases h
   ·split at h
    ·cases h
    ·split at h
     ·cases h
     ·rename_i h1 h2 h3
      have:=VQ t (done++[a]) h (by simp;omega);refine ⟨by simpa using this.1,fun b hb=>?_⟩;rcases ahR.1 hb with rfl|hb
      ·exact uQ (by simpa using h2)
      ·exact this.2 b hb
theorem S9:∀ (d:List Rdn) (i:Nat),jH i d=0->i<=32->i+d.length<=32/\∀ r∈d,r.length<=8/\∀ a∈r,a.1.length<=32
 | [],i,_,h=>by simp;exact h
 | r::d,i,h,hi=>by
   simp only [jH] at h;split at h
   ·cases h
   ·split at h
    ·cases h
    ·split at h
     ·rename_i h3;exact absurd h h3
     ·rename_i h1 h2 h3
      have h3':dl [] r=0:=by simpa using h3
      have a1:=VQ r [] h3' (by simp);have a2:=S9 d (i+1) h (by omega);refine ⟨by simp;omega,fun q hq=>?_⟩;rcases ahR.1 hq with rfl|hq
      ·exact ⟨by simpa using a1.1,a1.2⟩
      ·exact a2.2 q hq
theorem KY (s:List UInt8):(fY s).length<=3 * s.length:=OG _ _ _
theorem ae1 {key:Bool} {a:Ava} (h1:a.1.length<=32) (h2:a.2.length<=4096):(avT key a).length<=20000:=by
 have e1:=KY a.2;have e2:=KY (bP a.2);have e3:=K3 a.2;have e4:(aH a.1).length=a.1.length:=by simp [aH]
 unfold avT;split
 ·simp;omega
 ·simp;omega
theorem TZ {B:Nat} {sep:List UInt8}:∀ xs:List (List UInt8),(∀ x∈xs,x.length<=B)->(Lib.join xs sep).length<=xs.length * (B+sep.length)
 | [],_=>by simp [Lib.join]
 | [x],h=>by
   have:=h x (by simp);simp [Lib.join,List.intercalate];omega
 | x::y::l,h=>by
   have h1:=TZ (sep:=sep) (y::l) fun z hz=>h z (ajo _ hz)
   have h2:=h x (by simp);have e:Lib.join (x::y::l) sep=x++(sep++Lib.join (y::l) sep):=by simp [Lib.join,List.intercalate]
   rw [e];simp only [ahy,ahD,ajD] at h1 ⊢;omega
theorem OS {key:Bool} {r:Rdn} (h0:r.length<=8) (h1:∀ a∈r,a.1.length<=32) (h2:∀ a∈r,a.2.length<=4096):(cn key r).length<=200000:=by
 have key1:∀ xs:List (List UInt8),xs.length<=8->(∀ x∈xs,x.length<=20000)->(Lib.join xs [43]).length<=200000:=fun xs a b=>by
  have c:=TZ (sep:=[43]) xs b;have d:xs.length * (20000+[(43:UInt8)].length)<=8 * (20000+1):=aiN _ a;omega
 have hm:∀ x∈r.map (avT key),x.length<=20000:=fun x hx=>by
  obtain ⟨a,ha,rfl⟩:=ahs.1 hx;exact ae1 (h1 a ha) (h2 a ha)
 unfold cn;split
 ·refine key1 _ (by rw [Vh];simpa using h0) fun x hx=>hm x ?_
  exact (aiZ (r.map (avT key)) _).mem_iff.1 hx
 ·exact key1 _ (by simpa using h0) hm
theorem OK {key:Bool} {d:List Rdn} (h0:d.length<=32) (h1:∀ r∈d,(cn key r).length<=200000):(aQ key d).length<=10000000:=by
 have c:=TZ (sep:=[44]) (B:=200000) (d.map (cn key)) fun x hx=>by
  obtain ⟨r,hr,rfl⟩:=ahs.1 hx;exact h1 r hr
 have e:(d.map (cn key)).length * (200000+[(44:UInt8)].length)<=32 * (200000+1):=aiN _ (by simpa using h0);unfold aQ;omega
def prS (d:List Rdn):List UInt8×Int:=if jH 0 d≠0 then ([],jH 0 d) else if yA d=true then ([],5) else if 4096<(aQ false d).length then ([],5) else (aQ false d,0)
def N4 (p:List UInt8×Int):AV:=.tup [.str p.1,.int .i64 p.2]
def Qw (d:List Rdn):List UInt8×Int:=if (prS d).2≠0 then ([],(prS d).2) else (aQ true d,0)
theorem uf {d:List Rdn} {cap:Option Nat} (hn:d.length<=1100000) (hr:∀ r∈d,r.length<=1100000) (h:K (N4 (prS d)) L) :
  afB 27 [.sl (d.map aw) d.length cap] L K:=by
 have hat:=hid (fun k=>@mw d k);unfold prS N4 at h;refine acg U8 ?_;refine aeR hn hr ?_;by_cases hc:jH 0 d=0;rotate_left
 ·rw [if_pos hc] at h;replace h:=hid h;refine sk ?_;refine wk ?_;exact af h.out
 rw [if_neg (by simpa using hc)] at h;obtain ⟨hd32,hd8⟩:=S9 d 0 hc (by omega);rw [hc];replace hd8:=hid hd8;replace h:=hid h;clear hr hn hc;refine sk ?_;refine wk ?_;refine ah (fun n T' L'=>∃ (i:Nat) (c:Int) (Z:List Blk),n=d.length - i/\i<=d.length/\Hid (yA (d.take i)=false/\0<=c/\c<=8 * i)/\T'=[(18,.int .i64 (i:Int)),(17,.int .i64 d.length),(16,.sl (d.map aw) d.length cap),(5,.int .i64 c),(0,.sl (d.map aw) d.length cap)]/\L'=L++Z) (CutS (b:=by simp)) ⟨0,0,[],rfl,ahp _,hid ⟨rfl,by omega,by omega⟩,rfl,by simp⟩ ?_;rintro _ _ _ ⟨i,c,X,rfl,hi,hI,rfl,rfl⟩;by_cases hlt:i<d.length
 ·have g1:(i:Int)<(d.length:Int):=by omega
  have g2:=ace i (by omega);have e2:=hat.out i hlt;have hrm:d.getD i []∈d:=by rw [ahE,ahB hlt];exact ain _
  obtain ⟨r,hri⟩:=aaR (d.getD i []);have htk:d.take (i+1)=d.take i++[r]:=by rw [ahK hlt,<- hri];simp [hlt]
  rw [hri] at e2 hrm;have hr8:=(hd8.out r hrm).1;have bad:KA r=true->K (.tup [.str [],.int .i64 5]) L:=fun e=>by
   have h':=h.out;rw [if_pos (show yA d=true from aiY.2 ⟨r,hrm,e⟩)] at h';exact h'
  replace bad:=hid bad;replace htk:=hid htk;clear hri hrm;refine wk ?_;refine ah (fun n T' L'=>∃ (k:Nat) (c':Int) (Z:List Blk),n=r.length - k/\k<=r.length/\X.length<=Z.length/\Hid (KA (r.take k)=false/\c'=c+k)/\T'=[(24,.int .i64 (k:Int)),(23,.int .i64 r.length),(22,aw r),(18,.int .i64 (i:Int)),(17,.int .i64 d.length),(16,.sl (d.map aw) d.length cap),(5,.int .i64 c'),(0,.sl (d.map aw) d.length cap)]/\L'=L++Z) (CutS (b:=by simp)) ⟨0,c,X,rfl,ahp _,ahn _,hid ⟨rfl,by omega⟩,rfl,rfl⟩ ?_;rintro _ _ _ ⟨k,c',Z,rfl,hk,hXZ,hJ,rfl,rfl⟩;replace hXZ:=hid hXZ;by_cases hkl:k<r.length
  ·have g3:(k:Int)<(r.length:Int):=by omega
   have g4:=ace k (by omega);have g5:IntKind.i64.wrap (c'+1)=c'+1:=by
    obtain ⟨_,z1,z2⟩:=hI.out;have:=hJ.out.2;exact ac (by omega) (by omega)
   have e3:=fW hkl;have e4:k * 2+2<=(aN r).length:=by rw [cr];omega
   obtain ⟨⟨ty,va⟩,ha⟩:∃ a,r.getD k ([],[])=a:=⟨_,rfl⟩;have ham:(ty,va)∈r:=by rw [<- ha];simp [hkl]
   have htk2:r.take (k+1)=r.take k++[(ty,va)]:=by rw [ahK hkl,<- ha];simp [hkl]
   rw [ha] at e3;simp only [oC] at e3;have abC:4096<va.length->KA r=true:=fun e=>aiY.2 ⟨_,ham,by simpa using e⟩
   replace abC:=hid abC;replace htk2:=hid htk2;clear ha ham;by_cases hlv:(4096:Int)<(va.length:Int)
   ·have h':=hid (bad.out (abC.out (by omega)));refine wk ?_;exact ab rfl h'.out
   ·refine wk ?_;refine aq _ _ _ (by omega) (CutL (b:=?_)) ⟨k+1,c'+1,_,rfl,hkl,?_,hid ⟨?_,by have:=hJ.out.2;omega⟩,rfl,rfl⟩
    ·have:=hXZ.out;simp;omega
    ·have:=hXZ.out;simp;omega
    ·rw [htk2.out,KA,ajM,show (r.take k).any _=KA (r.take k) from rfl,hJ.out.1];simp;omega
  ·have hke:k=r.length:=by omega
   subst hke;have g3:¬ (r.length:Int)<(r.length:Int):=by omega
   have hlr:=hJ.out.1;rw [ahA] at hlr;replace hlr:=hid hlr;refine wk ?_;refine aq _ _ _ (by omega) (CutL (b:=by simp)) ⟨i+1,c',_,rfl,hlt,hid ⟨?_,?_,?_⟩,rfl,rfl⟩
   ·rw [htk.out,yA,ajM,show (d.take i).any _=yA (d.take i) from rfl,hI.out.1];simp [hlr.out]
   ·obtain ⟨_,z1,z2⟩:=hI.out;have:=hJ.out.2;omega
   ·obtain ⟨_,z1,z2⟩:=hI.out;have:=hJ.out.2;omega
 ·have hke:i=d.length:=by omega
  subst hke;have g1:¬ (d.length:Int)<(d.length:Int):=by omega
  have hld:=hI.out.1;rw [ahA] at hld;have h':=h.out;rw [if_neg (by rw [hld];simp)] at h';have hv:∀ r∈d,∀ a∈r,a.2.length<=4096:=fun r hr a ha=>by
   have h1:=ajj.1 hld r hr;have h1':KA r=false:=by simpa using h1
   unfold KA at h1';have h2:=ajj.1 h1' a ha;simpa using h2
  have hrl:∀ r∈d,(cn false r).length<=200000:=fun r hr=>OS (hd8.out r hr).1 (hd8.out r hr).2 (hv r hr)
  have htl:=OK (by omega) hrl;replace h':=hid h';clear hld;replace hv:=hid hv;replace hrl:=hid hrl;refine wk ?_;refine ad2 (by omega) (fun r hr=>⟨by have:=(hd8.out r hr).1;omega,fun a ha=>⟨by have:=(hd8.out r hr).2 a ha;omega,by have:=hv.out r hr a ha;omega⟩⟩) (fun r hr=>by have:=hrl.out r hr;omega) (by omega) ?_;by_cases hlg:4096<(aQ false d).length
  ·have k1:(4096:Int)<((aQ false d).length:Int):=by omega
   have h2:=h'.out;rw [if_pos hlg] at h2;replace h2:=hid h2;clear hlg;refine sk ?_;refine wk ?_;exact ab rfl h2.out
  ·have k1:¬ (4096:Int)<((aQ false d).length:Int):=by omega
   have h2:=h'.out;rw [if_neg hlg] at h2;replace h2:=hid h2;clear hlg;refine sk ?_;refine wk ?_;exact ab rfl h2.out
theorem TD {d:List Rdn} (h:(prS d).2=0):d.length<=32/\∀ r∈d,r.length<=8/\∀ a∈r,a.1.length<=32/\a.2.length<=4096:=by
 unfold prS at h;split at h
 ·rename_i hc;exact absurd h hc
 ·rename_i hc
  split at h
  ·cases h
  ·rename_i hl
   have h0:jH 0 d=0:=by simpa using hc
   obtain ⟨h1,h2⟩:=S9 d 0 h0 (by omega);have hld:yA d=false:=by simpa using hl
   refine ⟨by omega,fun r hr=>⟨(h2 r hr).1,fun a ha=>⟨(h2 r hr).2 a ha,?_⟩⟩⟩;have k1:=ajj.1 hld r hr;have k1':KA r=false:=by simpa using k1
   unfold KA at k1';have k2:=ajj.1 k1' a ha;simpa using k2
theorem Oc {d:List Rdn} {cap:Option Nat} (hn:d.length<=1100000) (hr:∀ r∈d,r.length<=1100000) (h:K (N4 (Qw d)) L) :
  afB 44 [.sl (d.map aw) d.length cap] L K:=by
 unfold Qw N4 at h;refine acg WJ ?_;refine uf hn hr ?_;unfold N4;obtain ⟨⟨ps,pe⟩,hp⟩:∃ p,prS d=p:=⟨_,rfl⟩;rw [hp] at h ⊢;simp only at h ⊢;by_cases h0:pe=0
 ·subst h0;obtain ⟨q1,q2⟩:=TD (by rw [hp]);rw [if_neg (by simp)] at h;have hrl:∀ r∈d,(cn true r).length<=200000:=fun r hr=>OS (q2 r hr).1 (fun a ha=>((q2 r hr).2 a ha).1) (fun a ha=>((q2 r hr).2 a ha).2)
  have htl:=OK (by omega) hrl;replace h:=hid h;replace q2:=hid q2;replace hrl:=hid hrl;clear hp hr;refine sk ?_;refine wk ?_;refine ZE (by omega) (fun r hr=>⟨by have:=(q2.out r hr).1;omega,fun a ha=>⟨by have:=((q2.out r hr).2 a ha).1;omega,by have:=((q2.out r hr).2 a ha).2;omega⟩⟩) (fun r hr=>by have:=hrl.out r hr;omega) (by omega) ?_;refine sk ?_;refine wk ?_;exact af h.out
 ·rw [if_pos h0] at h;replace h:=hid h;clear hp hr;refine sk ?_;refine wk ?_;exact af h.out
theorem Wg:∀ (f:Nat) (out:List Rdn) (now:Rdn) (s:List UInt8),out.length<=32->now.length<=8->(∀ r∈out,r.length<=8)->(rV f out now s).1.length<=33/\∀ r∈(rV f out now s).1,r.length<=8
 | 0,_,_,_,_,_,_=>by simp [rV]
 | f+1,out,now,s,h1,h2,h3=>by
   rw [rV];split
   ·simp
   rename_i hlim
   have hrow:∀ t v:List UInt8,(now++[(t,v)]).length<=8:=fun t v=>by simp;omega
   have hout:∀ t v:List UInt8,∀ r∈out++[now++[(t,v)]],r.length<=8:=fun t v r hr=>by
    rcases ahr.1 hr with h|h
    ·exact h3 r h
    ·rw [ahI.1 h];exact hrow t v
   split
   ·simp
   split
   ·simp
   split
   ·simp
   split
   ·simp
   split
   ·simp
   split
   ·exact ⟨by simp;omega,hout _ _⟩
   split
   ·exact Wg f _ _ _ (by simp;omega) (by simp) (hout _ _)
   ·exact Wg f _ _ _ h1 (hrow _ _) h3
theorem ZV (s:List UInt8):(fP s).1.length<=33/\∀ r∈(fP s).1,r.length<=8:=by
 unfold fP;split
 ·simp
 split
 ·simp
 ·exact Wg _ _ _ _ (by simp) (by simp) (by simp)
def GK (l:List UInt8):Bool:=l.any fun c=>c != 32
def OX (t:List UInt8) (k:Nat):List UInt8:=if GK (t.drop k)=true then bQ (t.take k) else du (bQ (t.take k))
theorem VK {t:List UInt8} {k:Nat} (h:k<t.length):t.drop k=t.getD k 0::t.drop (k+1):=by
 rw [ah2 h,ahE,ahB h];rfl
theorem T7 (c:UInt8) (l:List UInt8):GK (c::l)=(c != 32 || GK l):=rfl
theorem jS (b:List UInt8) (c:UInt8):du (b++[c])=if c=32 then b else b++[c]:=by simp [du]
theorem TU (t:List UInt8):∀ k,k<=t.length->bQ (t.take k)≠[]->(GM (bQ (t.take k))=true↔t.getD (k - 1) 0=32)
 | 0,_,h=>by simp [bQ] at h
 | k+1,hk,h=>by
   have ih:=TU t k (by omega);rw [yP (show k<t.length by omega)] at h ⊢;rw [show k+1 - 1=k by omega];unfold aP at h ⊢;split
   ·rename_i e;exact ⟨fun _=>e.1,fun _=>e.2⟩
   ·simp [GM]
theorem aaV {t:List UInt8} {k:Nat} (h:k<t.length):OX t (k+1) =
  if GK (t.drop k)=false\/(t.getD k 0=32/\(OX t k=[]\/t.getD (k - 1) 0=32)) then OX t k else OX t k++[t.getD k 0]:=by
 have hd:=VK h;have hl:=TU t k (by omega);unfold OX;rw [yP h,hd,T7];obtain ⟨c,hc⟩:=aaR (t.getD k 0);obtain ⟨p,hp⟩:=aaR (bQ (t.take k));rw [hc];rw [hp] at hl ⊢;have he:p=[]->GM p=true:=fun e=>by rw [e];rfl
 by_cases h32:c=32
 ·subst h32;by_cases hn:GK (t.drop (k+1))=true
  ·simp only [hn,bne_self_eq_false,ai3,if_true,aP,true_and,aiy,false_or];by_cases hp0:p=[]
   ·simp [hp0,GM]
   ·simp [hp0,hl hp0]
  ·have hn':GK (t.drop (k+1))=false:=by simpa using hn
   simp only [hn',bne_self_eq_false,ai3,ahJ,if_false,true_or,if_true];unfold aP;split
   ·rfl
   ·rename_i e
    rw [jS,if_pos rfl];unfold du;rw [if_neg];intro e2;exact e ⟨rfl,by simp [GM,e2]⟩
 ·have hb:(c != 32)=true:=by simpa using h32
  simp only [hb,Bool.true_or,if_true,h32,false_and,or_false,aiy,if_false];have:aP p c=p++[c]:=by rw [aP,if_neg fun e=>h32 e.1]
  rw [this,jS,if_neg h32];split<;>rfl
theorem aaU (t:List UInt8):OX t 0=[]:=by unfold OX;split<;>simp [bQ,du]
theorem acC (t:List UInt8):OX t t.length=du (bQ t):=by simp [OX,GK]
theorem acB (t:List UInt8) (k:Nat):(OX t k).length<=k:=by
 have:=qo t k;unfold OX;split
 ·exact this
 ·unfold du;split
  ·simp;omega
  ·exact this
theorem SW {s:List UInt8} (hs:(s.length:Int)<=100000) (h:K (.str (bP s)) L):afB 118 [.str s] L K:=by
 replace h:=hid h;refine aa SI (by simp [zm]) ?_;simp only [zm,ag];obtain ⟨t,ht⟩:=aaR (aH s);have htl:(t.length:Int)<=100000:=by rw [<- ht];simpa [aH] using hs
 have hfin:=hid (show OX t t.length=bP s by rw [acC,bP,ht]);have kk1:=@hid _ (fun L K=>mN hs (L:=L) (K:=K));refine wk ?_;refine bi (l:=[]) (n:=0) 4 1 rfl (ahQ 1).symm ?_;refine ah (fun n T' L'=>∃ (k:Nat) (b:List UInt8) (v:List AV) (m:Nat),n=t.length - k/\k<=t.length/\b=OX t k/\v=u8s b/\m=b.length/\T'=[(5,.int .i64 (k:Int)),(4,.gsl v m L.length 1),(3,.str t),(2,.str [])]/\L'=L++[.spare m 1]) (CutS (b:=by simp)) ⟨0,[],[],0,rfl,ahp _,(aaU t).symm,rfl,rfl,rfl,rfl⟩ ?_;rintro _ _ _ ⟨k,b,v,m,rfl,hk,hb,rfl,rfl,rfl,rfl⟩;replace hb:=hid hb;by_cases hlt:k<t.length
 ·have h1:(k:Int)<(t.length:Int):=by omega
  have h2:=ace k (by omega);refine wk ?_;have hbl:b.length<=k:=by rw [hb.out];exact acB t k
  have hub:(u8s b).length=b.length:=by simp [u8s]
  have hsucc:=hid (aaV hlt);refine ah (fun n T' L'=>∃ (j:Nat) (later:Bool),n=t.length - j/\j<=t.length/\(later=true->GK (t.drop k)=true)/\(later=false->GK (t.drop k)=GK (t.drop j))/\T'=[(7,.int .i64 (j:Int)),(6,.bool later),(5,.int .i64 (k:Int)),(4,.gsl (u8s b) b.length L.length 1),(3,.str t),(2,.str [])]/\L'=L++[.spare b.length 1]) (CutS (b:=by simp)) ⟨k,false,rfl,by omega,(by simp),(by simp),rfl,rfl⟩ ?_;rintro _ _ _ ⟨j,later,rfl,hj,hla,hlb,rfl,rfl⟩;replace hla:=hid hla;replace hlb:=hid hlb;obtain ⟨c,hc⟩:=aaR (t.getD k 0);rw [hc] at hsucc;have hc':((t[k]?.getD 0))=c:=by rw [<- hc,ahE]
  cases later
  ·by_cases hjl:j<t.length
   ·have g1:(j:Int)<(t.length:Int):=by omega
    have g2:=ace j (by omega);have hd:=hid (VK hjl);obtain ⟨x,hx⟩:=aaR (t.getD j 0);rw [hx] at hd;refine wk ?_;have hx32:(x != 32) = !decide ((x.toNat:Int)=32):=by
     have:(x.toNat:Int)=32↔x=32:=⟨fun h=>ajh.1 (by have:(32:UInt8).toNat=32:=rfl;omega),fun h=>by rw [h];rfl⟩;by_cases h:x=32<;>simp [h,this]
    have hnb:=hlb.out rfl;rw [hd.out,T7,hx32] at hnb;refine aq _ _ _ (by omega) (CutL (b:=by simp)) ⟨j+1, !decide ((x.toNat:Int)=32),rfl,hjl,fun e=>by rw [hnb,e];rfl,fun e=>by rw [hnb,e];rfl,rfl,rfl⟩
   ·have g1:¬ (j:Int)<(t.length:Int):=by omega
    have hn:GK (t.drop k)=false:=by rw [hlb.out rfl,aiX (by omega)];rfl
    replace hsucc:=hid (show OX t (k+1)=b by rw [hsucc.out,if_pos (.inl hn),hb.out]);refine wk ?_;exact aq _ _ _ (by omega) (CutL (b:=by simp)) ⟨k+1,b,_,b.length,rfl,hlt,hsucc.out.symm,rfl,rfl,rfl,rfl⟩
  ·have hn:GK (t.drop k)=true:=hla.out rfl;have hs2:=hsucc.out;rw [hn] at hs2;simp only [aiy,false_or,<- hb.out] at hs2;replace hs2:=hid hs2;have g6:b.length≠0->(1:Int)<=(k:Int):=fun h=>by omega
   replace g6:=hid g6;have g7:=hid fun h:1<=k=>show IntKind.i64.wrap ((k:Int) - 1)=(k:Int) - 1 from ac (by omega) (by omega)
   have u32:∀ x:UInt8,(x.toNat:Int)=32↔x=32:=fun x=>⟨fun h=>ajh.1 (by have:(32:UInt8).toNat=32:=rfl;omega),fun h=>by rw [h];rfl⟩
   replace u32:=hid u32
   repeat' first
    | refine cP ?_
    | (first|refine bY (by kernel_rfl) ?_|refine bj (by kernel_rfl) ?_|refine bm ?_|refine fy ?_|refine cT (fun _=>?_)|refine a8 ?_|refine b9 ?_)
      refine sm ?_
    | (first|refine bU (by kernel_rfl) ?_|refine bT ?_|refine bZ ?_|refine cY (a7 ?_))
      refine sl ?_
    | exact cU
    | first|apply cV|apply bV|apply cW|apply bW|apply cX|apply bX
    | refine br ?_
    | first|refine bp rfl ?_|refine bq rfl ?_|refine aW rfl ?_ ?_|refine bz rfl (fun _=>?_) (fun _=>?_)|refine bw rfl (fun _=>?_) (fun _=>?_)
    | ((first|refine aV (fun _=>?_) (fun _=>?_)|refine a6 (fun _=>?_) (fun _=>?_))<;>try refine sm ?_)
    | refine And.intro trivial ?_
    | refine And.intro (by omega) ?_
    | refine bA rfl (fun _=>?_) (fun _=>?_)
    | refine And.intro ?_ ?_
   ·rename_i hz
    rw [g7.out (by omega)];omega
   ·rename_i hz
    rw [g7.out (by omega)];omega
   ·rename_i hq
    have hcond:c=32/\(b=[]\/t.getD (k - 1) 0=32):=by
     refine ⟨(u32.out c).1 hq.1,?_⟩;rcases hq.2 with e|e
     ·exact .inl (ahX.1 (by omega))
     ·by_cases hb0:b=[]
      ·exact .inl hb0
      ·have hk1:1<=k:=by have:=ah8.2 hb0;omega
       rw [g7.out hk1,show ((k:Int) - 1).toNat=k - 1 by omega] at e;exact .inr ((u32.out _).1 e)
    exact aq _ _ _ (by omega) (CutL (b:=by simp)) ⟨k+1,b,_,b.length,rfl,hlt,by rw [hs2.out,if_pos hcond],rfl,rfl,rfl,rfl⟩
   ·rename_i hq
    have hcond:¬ (c=32/\(b=[]\/t.getD (k - 1) 0=32)):=fun ⟨e1,e2⟩=>hq (by
     refine ⟨(u32.out c).2 e1,?_⟩;by_cases hb0:b=[]
     ·exact .inl (by rw [hb0];rfl)
     ·have hk1:1<=k:=by have:=ah8.2 hb0;omega
      rcases e2 with e|e
      ·exact absurd e hb0
      ·refine .inr ?_;rw [g7.out hk1,show ((k:Int) - 1).toNat=k - 1 by omega];exact (u32.out _).2 e)
    rw [show u8s b++[AV.int IntKind.u8 (c.toNat:Int)]=u8s (b++[c]) by simp [u8s]];exact aq _ _ _ (by omega) (CutL (b:=by simp)) ⟨k+1,b++[c],_,b.length+1,rfl,hlt,by rw [hs2.out,if_neg hcond],rfl,by simp,rfl,rfl⟩
 ·have hke:k=t.length:=by omega
  subst hke;have h1:¬ (t.length:Int)<(t.length:Int):=by omega
  have e1:=kH b;have e2:=iR b;have e3:=hid (show b=bP s by rw [hb.out,hfin.out]);refine wk ?_;refine ab rfl ?_;rw [e3.out];exact h.out
end Go.Proofs.YtobihfefmlgaoaaGreat.Av
