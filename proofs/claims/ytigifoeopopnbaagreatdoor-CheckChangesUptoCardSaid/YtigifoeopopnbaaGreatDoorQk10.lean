/- Joined texts of the walk, made small by a program. -/
import Derived.Shelf.Strings.Builder1
import Derived.Shelf.Strings.Builder2
import Derived.Shelf.Strings.OnBuilder
import Derived.Shelf.Small.Bits
import Derived.Shelf.Small.Strs
import Derived.Shelf.Strconv.Itoa0
import Derived.Shelf.Strconv.Itoa1
import Derived.Shelf.LaysM
import Derived.Shelf.Strconv.Itoa2
import Derived.Shelf.Strconv.Itoa3
import Derived.Shelf.Strconv.Itoa4
import Derived.Shelf.Strconv.ParseIntEmpty
import Derived.Shelf.Strconv.Clone
import Derived.Shelf.Strconv.SyntaxError
import Derived.Shelf.LaysC
import Derived.Shelf.Strconv.ToError
import Derived.Shelf.Strconv.Lower
import Derived.Shelf.Strconv.ParseUint10
import Derived.Shelf.Strconv.ParseUint10Empty
import Derived.Shelf.Strconv.ParseUint10Any
import Derived.Shelf.Strconv.ParseInt10
import Derived.Shelf.Strconv.RangeError
import Derived.Shelf.Strconv.ToErrorRange
import Derived.Shelf.Strconv.ParseUintEmpty
import Derived.Shelf.Strconv.ParseUint10b64
import Derived.Shelf.Strconv.ParseUint10b32
import Derived.Shelf.Strconv.ParseUint10b16
import Derived.Shelf.Strconv.ParseUint10b8
import Derived.Shelf.Strconv.ParseUint10At
import Derived.Shelf.Strconv.ParseInt10At64
import Derived.Shelf.Strconv.ParseInt10At32
import Derived.Shelf.Strconv.ParseInt10At16
import Derived.Shelf.Strconv.ParseInt10At8
import Derived.Shelf.Strconv.ParseInt10All
import Derived.Shelf.Strconv.ParseIntPublic10
import Derived.Shelf.Strconv.ErrVarParseInt
import Derived.Shelf.Strings.Search1
import Derived.Shelf.Strings.Search2
import Derived.Shelf.Strings.Cut
import Derived.Shelf.Strings.Shaped
import Derived.Shelf.Sort.Plain
import Derived.Shelf.GgClosure.StringsIndexFunc
import Derived.Ground.GgwProg
import Derived.Shelf.GgClosure.StringsIndexFuncTop
import Derived.Shelf.GgClosure.StringsRunes
import Derived.Ground.Names2Prog
import Derived.Shelf.Slices.Clone
import Derived.Shelf.Slices.In.SortNone
import Derived.Test.YtigifoeopopnbaaGreatDoorProg
import Derived.Test.YtigifoeopopnbaaGreatDoorQk5
import Derived.Test.YtigifoeopopnbaaGreatDoorQk6
import Derived.Test.YtigifoeopopnbaaGreatDoorQk4
import Derived.Test.YtigifoeopopnbaaGreatDoorRows
import Derived.KernelRfl
import Derived.Test.YtigifoeopopnbaaGreatDoorQk9
import Derived.Test.YtigifoeopopnbaaGreatDoorQk8
set_option linter.unusedSimpArgs false
set_option linter.unusedVariables false
namespace Go.Proofs
open Go.Shelf
def Tryz.lays190_ren:Go.Shelf.Ren:=⟨fun|190=>74|125=>96|258=>95|128=>124|129=>125|302=>115|303=>116|304=>117|305=>118|306=>119|307=>120|308=>121|309=>122|310=>123|333=>141|329=>142|330=>143|334=>144|335=>145|336=>146|344=>167|n=>n,fun|31=>51|9=>9|3=>3|46=>137|0=>0|51=>174|53=>176|4=>4|183=>168|182=>167|131=>83|5=>5|218=>186|222=>190|228=>207|229=>208|n=>n,fun|n=>n⟩
theorem Tryz.lays190:Go.Proofs.Lays.n190 Tryz.prog Tryz.lays190_ren:={
 mixed:=by kernel_rfl
 f125:=Tryz.func96.trans (congrArg some (by kernel_rfl))
 f128:=Tryz.func124.trans (congrArg some (by kernel_rfl))
 f129:=Tryz.func125.trans (congrArg some (by kernel_rfl))
 f190:=Tryz.func74.trans (congrArg some (by kernel_rfl))
 f258:=Tryz.func95.trans (congrArg some (by kernel_rfl))
 f302:=Tryz.func115.trans (congrArg some (by kernel_rfl))
 f303:=Tryz.func116.trans (congrArg some (by kernel_rfl))
 f304:=Tryz.func117.trans (congrArg some (by kernel_rfl))
 f305:=Tryz.func118.trans (congrArg some (by kernel_rfl))
 f306:=Tryz.func119.trans (congrArg some (by kernel_rfl))
 f307:=Tryz.func120.trans (congrArg some (by kernel_rfl))
 f308:=Tryz.func121.trans (congrArg some (by kernel_rfl))
 f309:=Tryz.func122.trans (congrArg some (by kernel_rfl))
 f310:=Tryz.func123.trans (congrArg some (by kernel_rfl))
 f329:=Tryz.func142.trans (congrArg some (by kernel_rfl))
 f330:=Tryz.func143.trans (congrArg some (by kernel_rfl))
 f333:=Tryz.func141.trans (congrArg some (by kernel_rfl))
 f334:=Tryz.func144.trans (congrArg some (by kernel_rfl))
 f335:=Tryz.func145.trans (congrArg some (by kernel_rfl))
 f336:=Tryz.func146.trans (congrArg some (by kernel_rfl))
 f344:=Tryz.func167.trans (congrArg some (by kernel_rfl))
 t0:=Tryz.underlying0
 a0:=Tryz.isAgg0
 z0:=Tryz.sizeOf0
 v0:=Tryz.zeroValue0
 t3:=Tryz.underlying3
 a3:=Tryz.isAgg3
 z3:=Tryz.sizeOf3
 v3:=Tryz.zeroValue3
 t4:=Tryz.underlying4
 a4:=Tryz.isAgg4
 z4:=Tryz.sizeOf4
 v4:=Tryz.zeroValue4
 t5:=Tryz.underlying5
 a5:=Tryz.isAgg5
 z5:=Tryz.sizeOf5
 v5:=Tryz.zeroValue5
 t9:=Tryz.underlying9
 a9:=Tryz.isAgg9
 z9:=Tryz.sizeOf9
 v9:=Tryz.zeroValue9
 t31:=Tryz.underlying51
 a31:=Tryz.isAgg51
 z31:=Tryz.sizeOf51
 v31:=Tryz.zeroValue51
 t46:=Tryz.underlying137
 a46:=Tryz.isAgg137
 z46:=Tryz.sizeOf137
 v46:=Tryz.zeroValue137
 t51:=Tryz.underlying174
 a51:=Tryz.isAgg174
 z51:=Tryz.sizeOf174
 v51:=Tryz.zeroValue174
 t53:=Tryz.underlying176
 a53:=Tryz.isAgg176
 z53:=Tryz.sizeOf176
 v53:=Tryz.zeroValue176
 t131:=Tryz.underlying83
 a131:=Tryz.isAgg83
 z131:=Tryz.sizeOf83
 v131:=Tryz.zeroValue83
 t182:=Tryz.underlying167
 a182:=Tryz.isAgg167
 z182:=Tryz.sizeOf167
 v182:=Tryz.zeroValue167
 t183:=Tryz.underlying168
 a183:=Tryz.isAgg168
 z183:=Tryz.sizeOf168
 v183:=Tryz.zeroValue168
 t218:=Tryz.underlying186
 a218:=Tryz.isAgg186
 z218:=Tryz.sizeOf186
 v218:=Tryz.zeroValue186
 t222:=Tryz.underlying190
 a222:=Tryz.isAgg190
 z222:=Tryz.sizeOf190
 v222:=Tryz.zeroValue190
 t228:=Tryz.underlying207
 a228:=Tryz.isAgg207
 z228:=Tryz.sizeOf207
 v228:=Tryz.zeroValue207
 t229:=Tryz.underlying208
 a229:=Tryz.isAgg208
 z229:=Tryz.sizeOf208
 v229:=Tryz.zeroValue208 }
open Go.Sort Go.RowKit in
theorem Tryz.slices_Sort_string (blk off cap:Nat) (ss:List (List UInt8)) (w:World) (hH:Holds encStr w blk off ss.toArray) (hblk:blk<w.heap.size) (hsz:ss.length<4611686018427387904) :
 Calls Tryz.prog 74 #[.slice (some ⟨blk,off,none⟩) ss.length cap] w fun e w' =>
  e=.returned (.tuple #[])/\∃ n os,w'=grow (putRow encStr (Sort.ahead w n) blk off (ss.mergeSort fun x y=>decide (x<=y)).toArray) os:=Any.slices_Sort_string Tryz.lays190 blk off cap ss w hH hblk hsz
open Go.RowKit Go.Sort in
theorem Tryz.slices_Sort_string_none (p:Option Addr) (cap:Nat) (w:World) :
 Calls Tryz.prog 74 #[.slice p 0 cap] w fun e w'=>e=.returned (.tuple #[])/\w'=w:=Any.slices_Sort_string_none Tryz.lays190 p cap w
end Go.Proofs
namespace Go.Proofs.YtigifoeopopnbaaGreatDoor.Av
open Go Go.Sort
variable {L:List Blk} {K:aef}
abbrev bt (xs:List (List UInt8)):List AV:=xs.map AV.str
theorem QV {xs:List (List UInt8)} {sep:List UInt8} {cap:Option Nat} (hn:xs.length<=1100000) (hl:(Lib.join xs sep).length<=140737488355328) (h:K (.str (Lib.join xs sep)) L) :
  aee 163 [.sl (bt xs) xs.length cap,.str sep] L K :=
 fO Tryz.func163 rfl (by kernel_rfl) (fun w0 S0 E w vs hR hv=>by
  simp only [VRL,VR] at hv;obtain ⟨_,_,rfl,⟨p,c,rfl,hle,_,hp⟩,_,_,rfl,rfl,rfl⟩:=hv;by_cases hx:xs=[]
  ·subst hx;exact (Tryz.strings_Join_none p c ⟨⟨sep⟩⟩ w).mono fun e w' ⟨he,hw⟩=>⟨_,he,by simp [VR,Lib.join],by subst hw;exact LJ.refl _⟩
  ·rcases hp with ⟨e0,_⟩|⟨b,o,rfl,hcells⟩
   ·exact absurd (ae3.1 e0) hx
   ·have hmem:∀ (j:Nat) x,(xs.map fun s=>(⟨⟨s⟩⟩:ByteArray))[j]?=some x->w.cell? ⟨b,o+j,none⟩=some (.string x):=fun j x hj=>by
     rw [afr] at hj;rcases hxs:xs[j]? with _|s
     ·rw [hxs] at hj;cases hj
     ·rw [hxs] at hj;simp only [aeB,aei] at hj;subst hj;obtain ⟨v,g1,g2⟩:=hcells.get (i:=j) (a:=.str s) (by rw [afr,hxs];rfl);simp only [VR] at g2;subst g2;exact hR.mem _ _ _ g1
    have hb:b<w.heap.size:=by
     have hx0:0<xs.length:=afF.2 hx;have h0:=hmem 0 ⟨⟨xs[0]⟩⟩ (by rw [afr,aev hx0];rfl);rcases aer b w.heap.size with g|g
     ·exact g
     ·simp [World.cell?,agx g] at h0
    have hmm:(xs.map fun s=>(⟨⟨s⟩⟩:ByteArray)).map (·.data.toList)=xs:=by rw [afK];exact List.map_id'' (fun _=>rfl) xs
    have key:=Tryz.strings_Join b o c (xs.map fun s=>(⟨⟨s⟩⟩:ByteArray)) ⟨⟨sep⟩⟩ w hmem hb (by rw [aeS];omega) (by rw [aeS];exact hle) (by rw [hmm];exact hl);rw [hmm] at key;simp only [aeS] at key;exact key.mono fun e w' ⟨he,hbel⟩=>⟨_,he,by simp [VR],⟨fun b hb=>hbel.block b hb,hbel.size,hbel.os,hbel.tape,hbel.output⟩⟩) h
theorem Rel.putStrs {w0:World} {S0:SB} {E:Env} {L:List Blk} {w:World} (h:Rel w0 S0 E L w) {i:Nat} {xs d:List (List UInt8)} {rest:List AV} {c:Loc} (hi:L[i]?=some (.cells (bt xs++rest))) (hc:E.loc i=some c) (hd:d.length=xs.length) (q:Nat) :
  Rel w0 S0 E (L.set i (.cells (bt d++rest))) (putRow encStr (Sort.ahead w q) c.blk c.off d.toArray):=by
 obtain ⟨c',cs,ty,fr,h1,h2,h3,h4,h5,h6⟩:=h.blk i _ hi;rw [hc] at h1;cases h1;have hlt:c.blk<w.heap.size:=(afl.1 h2).1;have e1:(putRow encStr (Sort.ahead w q) c.blk c.off d.toArray).heap[c.blk]?=some (.cells (putCells encStr c.off d.toArray cs) ty fr):=by
  simp [putRow,mapBlock,Sort.ahead,agy,h2,onCells]
 have hlen:(bt xs++rest).length=xs.length+rest.length:=by simp
 refine h.turn (k':=.cells (bt d++rest)) hi rfl hc (by simp) (fun b hb=>?_) rfl rfl rfl ⟨c,_,ty,fr,hc,e1,by simp [putCells,h3],?_,fun j a ha=>?_,h6⟩ (fun _ _ e=>by cases e)
 ·have:c.blk≠b:=fun e=>hb e.symm
  simp [putRow,mapBlock,Sort.ahead,agy,this]
 ·rw [hlen] at h4;simp only [aeF,aeS,hd];omega
 ·rw [hlen] at h4;have hj:j<d.length+rest.length:=by
   have:=(aeh.1 ha).1;simpa using this
  have hcs:c.off+j<cs.size:=by omega
  have ep:(putCells encStr c.off d.toArray cs)[c.off+j]?=some (if c.off<=c.off+j/\c.off+j<c.off+d.length then encStr (d.toArray[c.off+j - c.off]!) else cs[c.off+j]):=by
   simp [putCells,hcs]
  by_cases hjd:j<d.length
  ·have ea:a=.str d[j]:=by
    rw [aem (by simpa using hjd)] at ha;simpa [hjd] using ha.symm
   subst ea;refine ⟨_,ep,?_⟩;rw [if_pos (by omega),show c.off+j - c.off=j by omega];simp [VR,encStr,hjd]
  ·have ha':(bt xs++rest)[j]?=some a:=by
    rw [aes (by simp;omega)] at ha ⊢;simpa [hd] using ha
   obtain ⟨v,g1,g2⟩:=h5 j a ha';refine ⟨v,?_,g2⟩;rw [ep,if_neg (by omega),<- g1];simp [hcs]
theorem K7 {w0:World} {S0:SB} {E:Env} {L:List Blk} {w:World} (h:Rel w0 S0 E L w) {i:Nat} {xs:List (List UInt8)} {rest:List AV} {c:Loc} (hi:L[i]?=some (.cells (bt xs++rest))) (hc:E.loc i=some c) :
  Holds encStr w c.blk c.off xs.toArray/\c.blk<w.heap.size:=by
 obtain ⟨c',cs,ty,fr,h1,h2,h3,h4,h5,h6⟩:=h.blk i _ hi;rw [hc] at h1;cases h1;refine ⟨fun j hj=>?_,(afl.1 h2).1⟩;have hj':j<xs.length:=by simpa using hj
 obtain ⟨v,g1,g2⟩:=h5 j (.str xs[j]) (by rw [aem (by simpa using hj')];simp [hj']);simp only [VR] at g2;subst g2;refine ⟨by simp [World.cell?,encStr,h2,g1,hj'],?_⟩;have h7:=h6 (c.off+j) (by omega) (by simp only [aeF,aeS] at h4;omega);simp only [World.frozen?,h2];obtain ⟨f1,f2⟩:=fr;simp only at h7;simp only [agF,decide_eq_false_iff_not];omega
theorem kP {P:Program} {f:FuncId} {fn:Func} (hf:P.funcs[f]?=some fn) (hb:fn.body.isSome=true) (hn:(fn.name == "runtime.NumGoroutine")=false) (args:Array Value) (w:World):(callFunc f args).run P w=.ok (.enter f args) w:=by
 simp only [callFunc,aen,run_program,aep,hf,hn];cases h:fn.body with
 | none=>simp [h] at hb
 | some c=>simp
def dd (xs:List (List UInt8)):List (List UInt8):=xs.mergeSort fun x y=>decide (x<=y)
theorem aa5 {xs:List (List UInt8)} {i:Nat} {cp:Option Nat} {rest:List AV} (hx:xs≠[]) (hn:xs.length<=1100000) (hL:L[i]?=some (.cells (bt xs++rest))) (h:K (.tup []) (L.set i (.cells (bt (dd xs)++rest)))) :
  aee 74 [.lsl i 0 xs.length cp 1] L K:=fun w0 S0 E w vs hR hv=>by
 simp only [VRL,VR] at hv;obtain ⟨_,_,rfl,⟨c,rc,d,hc,rfl,hd,hle,_,_⟩,rfl⟩:=hv;have hpos:0<xs.length:=afF.2 hx;have hd':d=c.off:=by have:=hd (by omega);omega
 subst hd';obtain ⟨hH,hlt⟩:=K7 hR hL hc;refine .inl ⟨kP Tryz.func74 rfl (by kernel_rfl) _ _,(Tryz.slices_Sort_string c.blk c.off rc xs w hH hlt (by omega)).mono ?_⟩;rintro e w' ⟨rfl,q,os,rfl⟩;have r1:=hR.putStrs hL hc (d:=dd xs) (by simp [dd]) q;refine ⟨E,_,_,_,rfl,.refl E,h,by simp [VR,VRL],r1.grown ?_⟩;exact ⟨fun b hb=>agU hb,by simp [grow],rfl,rfl,rfl⟩
theorem Uj {cap:Option Nat} (h:K (.tup []) L):aee 74 [.sl [] 0 cap] L K :=
 fO Tryz.func74 rfl (by kernel_rfl) (fun w0 S0 E w vs hR hv=>by
  simp only [VRL,VR] at hv;obtain ⟨_,_,rfl,⟨p,c,rfl,_⟩,rfl⟩:=hv;exact (Tryz.slices_Sort_string_none p c w).mono fun e w' ⟨he,hw⟩=>⟨_,he,by simp [VR,VRL],by subst hw;exact LJ.refl _⟩) h
theorem abz {xs:List (List UInt8)} {sep:List UInt8} {i:Nat} {cp:Option Nat} (hx:xs≠[]) (hn:xs.length<=1100000) (hl:(Lib.join xs sep).length<=140737488355328) (hL:L[i]?=some (.cells (bt xs))) (h:K (.str (Lib.join xs sep)) L) :
  aee 163 [.lsl i 0 xs.length cp 1,.str sep] L K:=fun w0 S0 E w vs hR hv=>by
 simp only [VRL,VR] at hv;obtain ⟨_,_,rfl,⟨c,rc,d,hc,rfl,hd,hle,_,_⟩,_,_,rfl,rfl,rfl⟩:=hv;have hpos:0<xs.length:=afF.2 hx;have hd':d=c.off:=by have:=hd (by omega);omega
 subst hd';obtain ⟨hH,hlt⟩:=K7 (rest:=[]) hR (by simpa using hL) hc;have hmem:∀ (j:Nat) x,(xs.map fun s=>(⟨⟨s⟩⟩:ByteArray))[j]?=some x->w.cell? ⟨c.blk,c.off+j,none⟩=some (.string x):=fun j x hj=>by
  have hjl:j<xs.length:=by have:=(aeh.1 hj).1;simpa using this
  have e:=(hH j (by simpa using hjl)).1;rw [afr,aev hjl] at hj;simp only [aeB,aei] at hj;subst hj;rw [e];simp [encStr,hjl]
 have hmm:(xs.map fun s=>(⟨⟨s⟩⟩:ByteArray)).map (·.data.toList)=xs:=by rw [afK];exact List.map_id'' (fun _=>rfl) xs
 have key:=Tryz.strings_Join c.blk c.off rc (xs.map fun s=>(⟨⟨s⟩⟩:ByteArray)) ⟨⟨sep⟩⟩ w hmem hlt (by rw [aeS];omega) (by rw [aeS];exact hle) (by rw [hmm];exact hl);rw [hmm] at key;simp only [aeS] at key;refine .inl ⟨kP Tryz.func163 rfl (by kernel_rfl) _ _,key.mono ?_⟩;rintro e w' ⟨rfl,hbel⟩;exact ⟨E,_,_,_,rfl,.refl E,h,by simp [VR],hR.grown ⟨fun b hb=>hbel.block b hb,hbel.size,hbel.os,hbel.tape,hbel.output⟩⟩
end Go.Proofs.YtigifoeopopnbaaGreatDoor.Av
set_option maxRecDepth 100000
namespace Go.Proofs.YtigifoeopopnbaaGreatDoor.Av
open Go
def O2:LSO:=[Aq 4]
def O1:LSO:=[Ak 5]
def O0:LSO:=[Aa 11 0,Ah 12 11,Ab 13 0]
def OZ:LSO:=[Ai 14 13 12]
def OY:LSO:=[Aj 15 1 11 13,Ac 16 1 15,Aa 7 16]
def OX:LSO:=[Ak 8]
def OW:LSO:=[Aa 17 7,Ah 18 17,Ab 19 0]
def OV:LSO:=[Ai 20 19 18]
def OU:LSO:=[Aj 21 2 17 19,An 22 2 21,AF 10,Ap 2 10 22]
def OT:LSO:=[Aa 23 1]
def MP:List (ak×Kd) :=
 [A5 24 0 10,A8 25 1 24 0 0,Bw 26 25 25 0 0,A5 27 1 10,A8 28 1 27 0 0]
def Ko:List ak :=
 [⟨(some 29),(.call 76 [(tm 28)]),none⟩,⟨(some 30),(.build [(.str []),(.str [])] [(0,(1,(tm 26))),(1,(1,(tm 29)))]),none⟩,⟨none,(.store 2 (tm 10) (tm 30)),none⟩]
def MO:List (ak×Kd) :=
 [Ay 31 8,A5 32 0 10,A8 33 1 32 0 0,od 34 (.bin .add (tm 33) (.av (.str [61]))) .pure,A5 35 1 10,A8 36 1 35 0 0,Bw 37 162 36 0 0,B0 38 34 37,
 od 39 (.bslice false 1 1 [(.str [])] [(0,(1,(tm 38)))]) (.read 0 0)]
def Kn:List ak :=
 [⟨(some 40),(.app 2 1 16 [(.str [])] (tm 31) (tm 39)),none⟩,⟨(some 8),(.mv (tm 40)),none⟩]
def MN:LSO:=[Af 41 19 1,Aa 19 41]
def MM:LSO:=[Aa 42 1]
def ML:LSO:=[Aa 43 8,Ao 44 74 43]
def MK:LSO:=[Aa 45 5,Aa 46 8,o1 47 (.call 163 [(tm 46),(.av (.str [43]))]),AE 48 47,AO 49 45 48,Aa 5 49]
def MJ:LSO:=[Af 50 13 1,Aa 13 50]
def MI:LSO:=[Aa 51 5,o1 52 (.call 163 [(tm 51),(.av (.str [44]))]),Aa 4 52]
def uc:aV:=⟨53,(.seq (.sreg O2 [])
 (.seq (.sreg O1 [])
 (.seq (.seq (.sreg O0 [])
 (.block 0 (.loop (.seq (.sreg OZ [])
 (.seq (.cond (tm 14) .skip
 (.exit 0))
 (.seq (.block 1 (.seq (.sreg OY Ck)
 (.seq (.sreg OX [])
 (.seq (.seq (.sreg OW [])
 (.block 2 (.loop (.seq (.sreg OV [])
 (.seq (.cond (tm 20) .skip
 (.exit 2))
 (.seq (.block 3 (.seq (.sreg OU Ck)
 (.seq (.seq (.sreg OT [])
 (.cond (tm 23) (.dregM MP Ko CF)
 .skip))
 (.dregM MO Kn CQ))))
 (.sreg MN Cj)))))))
 (.seq (.seq (.sreg MM [])
 (.cond (tm 42) (.sreg ML CG)
 .skip))
 (.sreg MK Co))))))
 (.sreg MJ Cj)))))))
 (.seq (.sreg MI Ck)
 .ret)))),[(.tmp 4)]⟩
attribute [push_cast] O2 O1 O0 OZ OY OX OW OV OU OT MP Ko MO Kn MN MM ML MK MJ MI
theorem NX:aX Tryz.prog (fun r i=>if r=11/\i=9 then 2 else 1) 134=some uc.raw:=by kernel_rfl
attribute [push_cast] uc
variable {L:List Blk} {K:aef}
set_option maxHeartbeats 8000000
set_option maxRecDepth 100000
def avT (key:Bool) (a:Ava):List UInt8:=if key=true then aa a.1++[61]++iL (fG a.2) else a.1++[61]++iL a.2
def gI (key:Bool) (r:Rdn):List UInt8:=Lib.join (if key=true then dd (r.map (avT key)) else r.map (avT key)) [43]
def jH (key:Bool) (d:List Rdn):List UInt8:=Lib.join (d.map (gI key)) [44]
theorem LM (n:Nat):∀ (s:List UInt8) (i:Nat),(wrL n i s).length<=3 * s.length
 | [],_=>by simp [wrL]
 | c::s,i=>by
   have h1:=LM n s (i+1);have h2:=aaW i n c;simp only [wrL,aeF,aet];omega
theorem Xr (l:List (List UInt8)):AV.frzL (bt l)=bt l:=by
 rw [AV.frzL_eq,afK];rfl
theorem W2 {xs:List (List UInt8)} {sep:List UInt8} {i n:Nat} (hx:n=xs.length) (hn:xs.length<=1100000) (hl:(Lib.join xs sep).length<=140737488355328) (h:K (.str (Lib.join xs sep)) L) :
  aee 163 [.gsl (bt xs) n i 1,.str sep] L K:=by
 subst hx;exact lY (by simpa only [AV.frzL,AV.frz,Xr] using QV (cap:=none) hn hl h)
theorem UO {xs:List (List UInt8)} {sep:List UInt8} {i n:Nat} {cp:Option Nat} (he:n=xs.length) (hx:xs≠[]) (hn:xs.length<=1100000) (hl:(Lib.join xs sep).length<=140737488355328) (hL:L[i]?=some (.cells (bt xs))) (h:K (.str (Lib.join xs sep)) L) :
  aee 163 [.lsl i 0 n cp 1,.str sep] L K:=by
 subst he;exact abz hx hn hl hL h
theorem aa4 {d:List Rdn} {cap:Option Nat} (hn:d.length<=1000) (hr:∀ r∈d,r.length<=1000/\∀ a∈r,a.1.length<=10000/\a.2.length<=10000) (hj1:∀ r∈d,(gI false r).length<=140737488355328) (hj2:(jH false d).length<=140737488355328) (h:K (.str (jH false d)) L) :
  aee 134 [.sl (d.map cm) d.length cap,.bool false] L K:=by
 replace h:=hid h;have hat:=hid (fun k=>@K9 d k);replace hr:=hid hr;replace hj1:=hid hj1;have s4:∀ (W:List Blk) (j:Nat) (A:Blk),L.length<=j->(L++W).set j A=L++W.set (j - L.length) A:=fun W j A hj=>ae5 _ _ hj
 replace s4:=hid s4;refine aed NX ?_;refine cz (l:=[]) (n:=0) 5 1 rfl (aeX 1).symm ?_;refine ai (fun n T' L'=>∃ (i:Nat) (all:List (List UInt8)) (Z:List Blk),n=d.length - i/\i<=d.length/\Hid (all=(d.take i).map (gI false))/\L'[L.length]?=some (.spare i 1)/\T'=[(13,.int .i64 (i:Int)),(12,.int .i64 d.length),(11,.sl (d.map cm) d.length cap),(5,.gsl (bt all) i L.length 1),(1,.bool false)]/\L'=L++Z) (CutS (b:=by simp)) ⟨0,[],[.spare 0 1],rfl,aej _,hid rfl,by simp,rfl,rfl⟩ ?_;rintro _ _ _ ⟨i,all,X,rfl,hi,hall,ho,rfl,rfl⟩;by_cases hlt:i<d.length
 ·have g1:(i:Int)<(d.length:Int):=by omega
  have g2:=aec i (by omega);have e2:=hat.out i hlt;have hrm:d.getD i []∈d:=by rw [aew,aev hlt];exact afi _
  have hrl:=hr.out _ hrm;have hjr:=hj1.out _ hrm;obtain ⟨r,hri⟩:=aea (d.getD i []);have htk:d.take (i+1)=d.take i++[r]:=by rw [aeL hlt,<- hri];simp [hlt]
  rw [hri] at e2 hrl hjr;clear hri hrm;obtain ⟨hrl1,hrl2⟩:=hrl;replace hrl2:=hid hrl2;replace htk:=hid htk;have hX:=(aeh.1 ho).1;rw [aeF] at hX;replace hX:=hid hX;refine wk ?_;refine ai (fun n T' L'=>∃ (k:Nat) (v:AV) (Z:List Blk),n=r.length - k/\k<=r.length/\X.length<=Z.length/\L'[L.length]?=some (.spare i 1)/\Hid ((v=.sl [] 0 (some 0)/\k=0)\/∃ j,(0<k/\L.length<j)/\v=.lsl j 0 k none 1/\L'[j]?=some (.cells (bt ((r.take k).map (avT false)))))/\T'=[(19,.int .i64 (k:Int)),(18,.int .i64 r.length),(17,cm r),(8,v),(13,.int .i64 (i:Int)),(12,.int .i64 d.length),(11,.sl (d.map cm) d.length cap),(5,.gsl (bt all) i L.length 1),(1,.bool false)]/\L'=L++Z) (CutS (b:=by simp)) ⟨0,_,X,rfl,aej _,aeg _,ho,hid (.inl ⟨rfl,rfl⟩),rfl,rfl⟩ ?_;rintro _ _ _ ⟨k,v,Z,rfl,hk,hXZ,ho2,hv,rfl,rfl⟩;replace hXZ:=hid hXZ;by_cases hkl:k<r.length
  ·have g3:(k:Int)<(r.length:Int):=by omega
   have g4:=aec k (by omega);have e3:=dc hkl;have e4:k * 2+2<=(aH r).length:=by rw [bW];omega
   obtain ⟨⟨ty,va⟩,ha⟩:∃ a,r.getD k ([],[])=a:=⟨_,rfl⟩;have ham:(ty,va)∈r:=by rw [<- ha];simp [hkl]
   have htk2:(r.take (k+1)).map (avT false)=(r.take k).map (avT false)++[ty++61::iL va]:=by
    rw [aeL hkl];have:r[k]=(ty,va):=by rw [<- ha];simp [hkl]
    rw [this];simp [avT]
   rw [ha] at e3;simp only [gf] at e3;have hva:=hrl2.out _ ham;simp only at hva;have hva':va.length<=100000:=by omega
   have hwl:=LM va.length va 0;have b1:(ty.length:Int)+1<=9223372036854775807:=by omega
   have b2:(ty.length:Int)+1+((iL va).length:Int)<=9223372036854775807:=by unfold iL;omega
   clear hwl ha ham hva;replace htk2:=hid htk2;have q1:(k+1) * 16<=140737488355328:=by omega
   have q2:k+1<=140737488355328:=by omega
   have q3:k<=140737488355327:=by omega
   rcases hv.out with ⟨rfl,hk0⟩|⟨j,⟨hk1,hBj⟩,rfl,hj⟩
   ·replace hk0:=hid hk0;have kk1:=@hid _ (fun L K=>f7 hva' (L:=L) (K:=K));refine wk ?_;refine ag _ _ _ (by omega) (CutL (b:=?_)) ⟨k+1,.lsl (L.length+(Z.length+1)) 0 1 none 1,_,rfl,hkl,?_,?_,hid (.inr ⟨L.length+(Z.length+1),⟨by omega,by omega⟩,by rw [hk0.out],?_⟩),rfl,rfl⟩
    ·have:=hXZ.out;simp;omega
    ·have:=hXZ.out;simp;omega
    ·rw [<- aeu,aem (aeh.1 ho2).1];exact ho2
    ·rw [lO,lO,htk2.out,hk0.out];rfl
   ·obtain ⟨cur,hcur⟩:=aea ((r.take k).map (avT false));have hcl:cur.length=k:=by rw [<- hcur];simp;omega
    rw [hcur] at hj;have f1:(L++(Z++[Blk.cells [.str ty,.str va]]))[j]?=some (.cells (bt cur)):=by
     rw [<- aeu,aem (aeh.1 hj).1];exact hj
    have f2:(L++(Z++[Blk.cells [.str ty,.str va]])).set j .dead=L++(Z++[Blk.cells [.str ty,.str va]]).set (j - L.length) .dead:=s4.out _ _ _ (by omega);have f3:k<=(bt cur).length:=by simp [hcl]
    have f4:(bt cur).take k=bt cur:=aeV (by simp [hcl]);replace hcur:=hid hcur;replace hcl:=hid hcl;have hjL:=hid (show j≠L.length by omega);have f2':=hid f2
    repeat' first
     | refine aY ?_
     | (first|refine aO (by kernel_rfl) ?_|refine aA (by kernel_rfl) ?_|refine aB ?_|refine bw ?_|refine a6 (fun _=>?_)|refine ax ?_|refine aR ?_|refine f7 hva' ?_|refine bj (f7 hva' ⟨rfl,rfl⟩) (f7 hva' ⟨rfl,rfl⟩) ?_|refine aS (f7 hva' ⟨rfl,rfl⟩) ?_)
       refine sm ?_
     | (first|refine aK (by kernel_rfl) ?_|refine aP ?_|refine aQ ?_|refine bd (aw ?_))
       refine sl ?_
     | exact a7
     | first|apply a8|apply aL|apply ba|apply aM|apply bc|apply aN
     | refine aE ?_
     | first|refine aC rfl ?_|refine aD rfl ?_|refine ap rfl ?_ ?_|refine aG rfl (fun _=>?_) (fun _=>?_)|refine aF rfl (fun _=>?_) (fun _=>?_)
     | ((first|refine ao (fun _=>?_) (fun _=>?_)|refine au (fun _=>?_) (fun _=>?_))<;>try refine sm ?_)
     | refine And.intro trivial ?_
     | refine And.intro (by omega) ?_
     | refine aI rfl (fun _=>?_) (fun _=>?_)
     | refine And.intro ?_ ?_
    ·rw [hcl.out];exact aeg _
    ·have hA:((Z++[Blk.cells [.str ty,.str va]]).set (j - L.length) .dead).length=Z.length+1:=by simp
     refine ag _ _ _ (by omega) (CutL (b:=?_)) ⟨k+1,.lsl (L.length+(Z.length+1)) 0 (k+1) none 1,_,rfl,hkl,?_,?_,hid (.inr ⟨L.length+(Z.length+1),⟨by omega,by omega⟩,rfl,?_⟩),rfl,rfl⟩
     ·have:=hXZ.out;simp;omega
     ·have:=hXZ.out;simp;omega
     ·rw [<- aeu,<- f2'.out,aem (by simp),aeA hjL.out,<- aeu,aem (aeh.1 ho2).1];exact ho2
     ·rw [lO,<- hA,Qb,htk2.out,hcur.out];simp
  ·have hke:k=r.length:=by omega
   subst hke;have g3:¬ (r.length:Int)<(r.length:Int):=by omega
   have q4:(i+1) * 16<=140737488355328:=by omega
   have q5:i+1<=140737488355328:=by omega
   have hrow:gI false r=Lib.join (r.map (avT false)) [43]:=by simp [gI]
   rw [hrow] at hjr;have htk3:(d.take (i+1)).map (gI false)=all++[Lib.join (r.map (avT false)) [43]]:=by
    rw [htk.out,ae8,<- hall.out,<- hrow];rfl
   have f0:(L++Z).set L.length (.spare (i+1) 1)=L++Z.set 0 (.spare (i+1) 1):=by rw [s4.out _ _ _ (aeg _),afn]
   have f1:(L++Z.set 0 (.spare (i+1) 1))[L.length]?=some (.spare (i+1) 1):=by
    rw [<- f0,aeD,if_pos rfl,if_pos (aeh.1 ho2).1]
   replace hrow:=hid hrow;replace htk3:=hid htk3;replace f1:=hid f1;rcases hv.out with ⟨rfl,hk0⟩|⟨j,⟨hk1,hBj⟩,rfl,hj⟩
   ·have hr0:r=[]:=ae3.1 hk0;replace hk0:=hid hk0;refine wk ?_;refine QV (xs:=[]) (by simp) (by simp [Lib.join]) ?_;refine sk ?_;refine wk ?_;rw [show bt all++[AV.str (Lib.join [] [43])]=bt (all++[Lib.join [] [43]]) by simp];exact ag _ _ _ (by omega) (CutL (b:=by have:=hX.out;have h0:=(aeh.1 ho2).1;simp at h0 ⊢;omega)) ⟨i+1,all++[Lib.join [] [43]],_,rfl,hlt,hid (by rw [htk3.out,hr0];rfl),f1.out,rfl,rfl⟩
   ·rw [aeE] at hj;by_cases hr0:r=[]
    ·rw [hr0] at hk1;cases hk1
    ·refine wk ?_;refine UO (xs:=r.map (avT false)) (by simp) (by simpa using hr0) (by simp;omega) hjr (by simpa using hj) ?_;refine sk ?_;refine wk ?_;rw [show bt all++[AV.str (Lib.join (r.map (avT false)) [43])]=bt (all++[Lib.join (r.map (avT false)) [43]]) by simp];exact ag _ _ _ (by omega) (CutL (b:=by have h0:=(aeh.1 ho2).1;simp at h0 ⊢;omega)) ⟨i+1,all++[Lib.join (r.map (avT false)) [43]],_,rfl,hlt,hid htk3.out.symm,f1.out,rfl,rfl⟩
 ·have hke:i=d.length:=by omega
  subst hke;have g1:¬ (d.length:Int)<(d.length:Int):=by omega
  have e:=hall.out;rw [aeE] at e;have h':=h.out;simp only [jH] at h' hj2;replace h':=hid h';clear hall;subst e;refine wk ?_;refine W2 (by simp) (by simp;omega) hj2 ?_;refine sk ?_;refine wk ?_;exact ab rfl h'.out
theorem VJ (s:List UInt8):(iw s).length<=s.length:=by
 have:=tO s s.length
 rwa [aeE] at this
theorem Ie (s:List UInt8):(fG s).length<=s.length:=by
 have h1:=VJ (aa s);have h2:(aa s).length=s.length:=by simp [aa]
 unfold fG uX;split
 ·simp only [List.length_dropLast];omega
 ·omega
theorem YW {xs:List (List UInt8)} {i n:Nat} {cp:Option Nat} (he:n=xs.length) (hx:xs≠[]) (hn:xs.length<=1100000) (hL:L[i]?=some (.cells (bt xs))) (h:K (.tup []) (L.set i (.cells (bt (dd xs))))) :
  aee 74 [.lsl i 0 n cp 1] L K:=by
 subst he;exact aa5 (rest:=[]) hx hn (by simpa using hL) (by simpa using h)
theorem Sj (xs:List (List UInt8)):(dd xs).length=xs.length:=by simp [dd]
theorem aa3 {d:List Rdn} {cap:Option Nat} (hn:d.length<=1000) (hr:∀ r∈d,r.length<=1000/\∀ a∈r,a.1.length<=10000/\a.2.length<=10000) (hj1:∀ r∈d,(gI true r).length<=140737488355328) (hj2:(jH true d).length<=140737488355328) (h:K (.str (jH true d)) L) :
  aee 134 [.sl (d.map cm) d.length cap,.bool true] L K:=by
 replace h:=hid h;have hat:=hid (fun k=>@K9 d k);replace hr:=hid hr;replace hj1:=hid hj1;have s4:∀ (W:List Blk) (j:Nat) (A:Blk),L.length<=j->(L++W).set j A=L++W.set (j - L.length) A:=fun W j A hj=>ae5 _ _ hj
 replace s4:=hid s4;refine aed NX ?_;refine cz (l:=[]) (n:=0) 5 1 rfl (aeX 1).symm ?_;refine ai (fun n T' L'=>∃ (i:Nat) (all:List (List UInt8)) (Z:List Blk),n=d.length - i/\i<=d.length/\Hid (all=(d.take i).map (gI true))/\L'[L.length]?=some (.spare i 1)/\T'=[(13,.int .i64 (i:Int)),(12,.int .i64 d.length),(11,.sl (d.map cm) d.length cap),(5,.gsl (bt all) i L.length 1),(1,.bool true)]/\L'=L++Z) (CutS (b:=by simp)) ⟨0,[],[.spare 0 1],rfl,aej _,hid rfl,by simp,rfl,rfl⟩ ?_;rintro _ _ _ ⟨i,all,X,rfl,hi,hall,ho,rfl,rfl⟩;by_cases hlt:i<d.length
 ·have g1:(i:Int)<(d.length:Int):=by omega
  have g2:=aec i (by omega);have e2:=hat.out i hlt;have hrm:d.getD i []∈d:=by rw [aew,aev hlt];exact afi _
  have hrl:=hr.out _ hrm;have hjr:=hj1.out _ hrm;obtain ⟨r,hri⟩:=aea (d.getD i []);have htk:d.take (i+1)=d.take i++[r]:=by rw [aeL hlt,<- hri];simp [hlt]
  rw [hri] at e2 hrl hjr;clear hri hrm;obtain ⟨hrl1,hrl2⟩:=hrl;replace hrl2:=hid hrl2;replace htk:=hid htk;have hX:=(aeh.1 ho).1;rw [aeF] at hX;replace hX:=hid hX;refine wk ?_;refine ai (fun n T' L'=>∃ (k:Nat) (v:AV) (Z:List Blk),n=r.length - k/\k<=r.length/\X.length<=Z.length/\L'[L.length]?=some (.spare i 1)/\Hid ((v=.sl [] 0 (some 0)/\k=0)\/∃ j,(0<k/\L.length<j)/\v=.lsl j 0 k none 1/\L'[j]?=some (.cells (bt ((r.take k).map (avT true)))))/\T'=[(19,.int .i64 (k:Int)),(18,.int .i64 r.length),(17,cm r),(8,v),(13,.int .i64 (i:Int)),(12,.int .i64 d.length),(11,.sl (d.map cm) d.length cap),(5,.gsl (bt all) i L.length 1),(1,.bool true)]/\L'=L++Z) (CutS (b:=by simp)) ⟨0,_,X,rfl,aej _,aeg _,ho,hid (.inl ⟨rfl,rfl⟩),rfl,rfl⟩ ?_;rintro _ _ _ ⟨k,v,Z,rfl,hk,hXZ,ho2,hv,rfl,rfl⟩;replace hXZ:=hid hXZ;by_cases hkl:k<r.length
  ·have g3:(k:Int)<(r.length:Int):=by omega
   have g4:=aec k (by omega);have e3:=dc hkl;have e4:k * 2+2<=(aH r).length:=by rw [bW];omega
   obtain ⟨⟨ty,va⟩,ha⟩:∃ a,r.getD k ([],[])=a:=⟨_,rfl⟩;have ham:(ty,va)∈r:=by rw [<- ha];simp [hkl]
   have htk2:(r.take (k+1)).map (avT true)=(r.take k).map (avT true)++[aa ty++61::iL (fG va)]:=by
    rw [aeL hkl];have:r[k]=(ty,va):=by rw [<- ha];simp [hkl]
    rw [this];simp [avT]
   rw [ha] at e3;simp only [gf] at e3;have hva:=hrl2.out _ ham;simp only at hva;have hpl:=Ie va;have hva':(fG va).length<=100000:=by omega
   have hva2:(va.length:Int)<=100000:=by omega
   have hty2:(ty.length:Int)<=100000:=by omega
   have hwl:=LM (fG va).length (fG va) 0;have hfl:(aa ty).length=ty.length:=by simp [aa]
   have b1:((aa ty).length:Int)+1<=9223372036854775807:=by omega
   have b2:((aa ty).length:Int)+1+((iL (fG va)).length:Int)<=9223372036854775807:=by unfold iL;omega
   clear hwl ha ham hva hfl hpl;replace htk2:=hid htk2;have q1:(k+1) * 16<=140737488355328:=by omega
   have q2:k+1<=140737488355328:=by omega
   have q3:k<=140737488355327:=by omega
   rcases hv.out with ⟨rfl,hk0⟩|⟨j,⟨hk1,hBj⟩,rfl,hj⟩
   ·replace hk0:=hid hk0;have kk1:=@hid _ (fun L K=>HF hty2 (L:=L) (K:=K));have kk2:=@hid _ (fun L K=>ul hva2 (L:=L) (K:=K));have kk3:=@hid _ (fun L K=>f7 hva' (L:=L) (K:=K));refine wk ?_;refine ag _ _ _ (by omega) (CutL (b:=?_)) ⟨k+1,.lsl (L.length+(Z.length+1)) 0 1 none 1,_,rfl,hkl,?_,?_,hid (.inr ⟨L.length+(Z.length+1),⟨by omega,by omega⟩,by rw [hk0.out],?_⟩),rfl,rfl⟩
    ·have:=hXZ.out;simp;omega
    ·have:=hXZ.out;simp;omega
    ·rw [<- aeu,aem (aeh.1 ho2).1];exact ho2
    ·rw [lO,lO,htk2.out,hk0.out];rfl
   ·obtain ⟨cur,hcur⟩:=aea ((r.take k).map (avT true));have hcl:cur.length=k:=by rw [<- hcur];simp;omega
    rw [hcur] at hj;have f1:(L++(Z++[Blk.cells [.str (aa ty),.str (fG va)]]))[j]?=some (.cells (bt cur)):=by
     rw [<- aeu,aem (aeh.1 hj).1];exact hj
    have f2:(L++(Z++[Blk.cells [.str (aa ty),.str (fG va)]])).set j .dead=L++(Z++[Blk.cells [.str (aa ty),.str (fG va)]]).set (j - L.length) .dead:=s4.out _ _ _ (by omega);have f3:k<=(bt cur).length:=by simp [hcl]
    have f4:(bt cur).take k=bt cur:=aeV (by simp [hcl]);replace hcur:=hid hcur;replace hcl:=hid hcl;have hjL:=hid (show j≠L.length by omega);have f2':=hid f2
    repeat' first
     | refine aY ?_
     | (first|refine aO (by kernel_rfl) ?_|refine aA (by kernel_rfl) ?_|refine aB ?_|refine bw ?_|refine a6 (fun _=>?_)|refine ax ?_|refine aR ?_|refine HF hty2 ?_|refine ul hva2 ?_|refine f7 hva' ?_|refine bj (HF hty2 ⟨rfl,rfl⟩) (HF hty2 ⟨rfl,rfl⟩) ?_|refine bj (ul hva2 ⟨rfl,rfl⟩) (ul hva2 ⟨rfl,rfl⟩) ?_|refine bj (f7 hva' ⟨rfl,rfl⟩) (f7 hva' ⟨rfl,rfl⟩) ?_|refine aS (HF hty2 ⟨rfl,rfl⟩) ?_|refine aS (ul hva2 ⟨rfl,rfl⟩) ?_|refine aS (f7 hva' ⟨rfl,rfl⟩) ?_)
       refine sm ?_
     | (first|refine aK (by kernel_rfl) ?_|refine aP ?_|refine aQ ?_|refine bd (aw ?_))
       refine sl ?_
     | exact a7
     | first|apply a8|apply aL|apply ba|apply aM|apply bc|apply aN
     | refine aE ?_
     | first|refine aC rfl ?_|refine aD rfl ?_|refine ap rfl ?_ ?_|refine aG rfl (fun _=>?_) (fun _=>?_)|refine aF rfl (fun _=>?_) (fun _=>?_)
     | ((first|refine ao (fun _=>?_) (fun _=>?_)|refine au (fun _=>?_) (fun _=>?_))<;>try refine sm ?_)
     | refine And.intro trivial ?_
     | refine And.intro (by omega) ?_
     | refine aI rfl (fun _=>?_) (fun _=>?_)
     | refine And.intro ?_ ?_
    ·rw [hcl.out];exact aeg _
    ·have hA:((Z++[Blk.cells [.str (aa ty),.str (fG va)]]).set (j - L.length) .dead).length=Z.length+1:=by simp
     refine ag _ _ _ (by omega) (CutL (b:=?_)) ⟨k+1,.lsl (L.length+(Z.length+1)) 0 (k+1) none 1,_,rfl,hkl,?_,?_,hid (.inr ⟨L.length+(Z.length+1),⟨by omega,by omega⟩,rfl,?_⟩),rfl,rfl⟩
     ·have:=hXZ.out;simp;omega
     ·have:=hXZ.out;simp;omega
     ·rw [<- aeu,<- f2'.out,aem (by simp),aeA hjL.out,<- aeu,aem (aeh.1 ho2).1];exact ho2
     ·rw [lO,<- hA,Qb,htk2.out,hcur.out];simp
  ·have hke:k=r.length:=by omega
   subst hke;have g3:¬ (r.length:Int)<(r.length:Int):=by omega
   have q4:(i+1) * 16<=140737488355328:=by omega
   have q5:i+1<=140737488355328:=by omega
   have hrow:gI true r=Lib.join (dd (r.map (avT true))) [43]:=by simp [gI]
   rw [hrow] at hjr;have htk3:(d.take (i+1)).map (gI true)=all++[Lib.join (dd (r.map (avT true))) [43]]:=by
    rw [htk.out,ae8,<- hall.out,<- hrow];rfl
   replace hrow:=hid hrow;replace htk3:=hid htk3;rcases hv.out with ⟨rfl,hk0⟩|⟨j,⟨hk1,hBj⟩,rfl,hj⟩
   ·have hr0:r=[]:=ae3.1 hk0;have f0:(L++Z).set L.length (.spare (i+1) 1)=L++Z.set 0 (.spare (i+1) 1):=by rw [s4.out _ _ _ (aeg _),afn]
    have f1:(L++Z.set 0 (.spare (i+1) 1))[L.length]?=some (.spare (i+1) 1):=by
     rw [<- f0,aeD,if_pos rfl,if_pos (aeh.1 ho2).1]
    replace f1:=hid f1;replace hk0:=hid hk0;refine wk ?_;refine Uj ?_;refine sk ?_;refine wk ?_;refine QV (xs:=[]) (by simp) (by simp [Lib.join]) ?_;refine sk ?_;refine wk ?_;rw [show bt all++[AV.str (Lib.join [] [43])]=bt (all++[Lib.join [] [43]]) by simp];exact ag _ _ _ (by omega) (CutL (b:=by have:=hX.out;have h0:=(aeh.1 ho2).1;simp at h0 ⊢;omega)) ⟨i+1,all++[Lib.join [] [43]],_,rfl,hlt,hid (by rw [htk3.out,hr0];simp [dd]),f1.out,rfl,rfl⟩
   ·rw [aeE] at hj;have hr0:r≠[]:=fun e=>by rw [e] at hk1;cases hk1
    obtain ⟨xs,hxs⟩:=aea (r.map (avT true));have hxl:r.length=xs.length:=by rw [<- hxs];simp
    have hxne:xs≠[]:=fun e=>hr0 (by have:=hxl;rw [e] at this;exact ae3.1 this)
    rw [hxs] at hj hjr htk3;have hsl:=Sj xs;have hjl:L.length+(j - L.length)=j:=by omega
    have f2:(L++Z).set j (.cells (bt (dd xs)))=L++Z.set (j - L.length) (.cells (bt (dd xs))):=s4.out _ _ _ (by omega);have f3:(L++Z.set (j - L.length) (.cells (bt (dd xs))))[j]?=some (.cells (bt (dd xs))):=by
     rw [<- f2,aeD,if_pos rfl,if_pos (aeh.1 hj).1]
    have ho3:(L++Z.set (j - L.length) (.cells (bt (dd xs))))[L.length]?=some (.spare i 1):=by
     rw [<- f2,aeA (by omega)];exact ho2
    clear ho2;replace hj:=hid hj;generalize hZ1:Z.set (j - L.length) (.cells (bt (dd xs)))=Z1 at f2 f3 ho3;have f0:(L++Z1).set L.length (.spare (i+1) 1)=L++Z1.set 0 (.spare (i+1) 1):=by rw [s4.out _ _ _ (aeg _),afn]
    have f1:(L++Z1.set 0 (.spare (i+1) 1))[L.length]?=some (.spare (i+1) 1):=by
     rw [<- f0,aeD,if_pos rfl,if_pos (aeh.1 ho3).1]
    replace f1:=hid f1;replace f2:=hid f2;replace f3:=hid f3;replace hxs:=hid hxs;replace hxl:=hid hxl;replace hsl:=hid hsl;clear hZ1;replace hxne:=hid hxne;refine wk ?_;refine YW hxl.out hxne.out (by have:=hxl.out;omega) hj.out ?_;rw [f2.out];refine sk ?_;refine wk ?_;refine UO (xs:=dd xs) (by rw [hsl.out];exact hxl.out) (fun e=>hxne.out (by have:=hsl.out;rw [e] at this;exact ae3.1 this.symm)) (by have:=hxl.out;rw [hsl.out];omega) hjr f3.out ?_;refine sk ?_;refine wk ?_;rw [show bt all++[AV.str (Lib.join (dd xs) [43])]=bt (all++[Lib.join (dd xs) [43]]) by simp];exact ag _ _ _ (by omega) (CutL (b:=by have h0:=(aeh.1 ho3).1;simp at h0 ⊢;omega)) ⟨i+1,all++[Lib.join (dd xs) [43]],_,rfl,hlt,hid htk3.out.symm,f1.out,rfl,rfl⟩
 ·have hke:i=d.length:=by omega
  subst hke;have g1:¬ (d.length:Int)<(d.length:Int):=by omega
  have e:=hall.out;rw [aeE] at e;have h':=h.out;simp only [jH] at h' hj2;replace h':=hid h';clear hall;subst e;refine wk ?_;refine W2 (by simp) (by simp;omega) hj2 ?_;refine sk ?_;refine wk ?_;exact ab rfl h'.out
def Hz (r:Rdn):Bool:=r.any fun a=>decide (4096<a.2.length)
def NE (d:List Rdn):Bool:=d.any Hz
theorem SW:∀ (t done:Rdn),gA done t=0->done.length<=8->(done++t).length<=8/\∀ a∈t,a.1.length<=32
 | [],done,_,h=>by simp;exact h
 | a::t,done,h,hd=>by
   simp only [gA] at h;split at h
   ·cases h
   ·split at h
    ·cases h
    ·split at h
     ·cases h
     ·rename_i h1 h2 h3
      have:=SW t (done++[a]) h (by simp;omega);refine ⟨by simpa using this.1,fun b hb=>?_⟩;rcases aex.1 hb with rfl|hb
      ·exact pg (by simpa using h2)
      ·exact this.2 b hb
theorem Qh:∀ (d:List Rdn) (i:Nat),DD i d=0->i<=32->i+d.length<=32/\∀ r∈d,r.length<=8/\∀ a∈r,a.1.length<=32
 | [],i,_,h=>by simp;exact h
 | r::d,i,h,hi=>by
   simp only [DD] at h;split at h
   ·cases h
   ·split at h
    ·cases h
    ·split at h
     ·rename_i h3;exact absurd h h3
     ·rename_i h1 h2 h3
      have h3':gA [] r=0:=by simpa using h3
      have a1:=SW r [] h3' (by simp);have a2:=Qh d (i+1) h (by omega);refine ⟨by simp;omega,fun q hq=>?_⟩;rcases aex.1 hq with rfl|hq
      ·exact ⟨by simpa using a1.1,a1.2⟩
      ·exact a2.2 q hq
theorem H6 (s:List UInt8):(iL s).length<=3 * s.length:=LM _ _ _
theorem abY {key:Bool} {a:Ava} (h1:a.1.length<=32) (h2:a.2.length<=4096):(avT key a).length<=20000:=by
 have e1:=H6 a.2;have e2:=H6 (fG a.2);have e3:=Ie a.2;have e4:(aa a.1).length=a.1.length:=by simp [aa]
 unfold avT;split
 ·simp;omega
 ·simp;omega
theorem QW {B:Nat} {sep:List UInt8}:∀ xs:List (List UInt8),(∀ x∈xs,x.length<=B)->(Lib.join xs sep).length<=xs.length * (B+sep.length)
 | [],_=>by simp [Lib.join]
 | [x],h=>by
   have:=h x (by simp);simp [Lib.join,List.intercalate];omega
 | x::y::l,h=>by
   have h1:=QW (sep:=sep) (y::l) fun z hz=>h z (af0 _ hz)
   have h2:=h x (by simp);have e:Lib.join (x::y::l) sep=x++(sep++Lib.join (y::l) sep):=by simp [Lib.join,List.intercalate]
   rw [e];simp only [aeF,aet,agh] at h1 ⊢;omega
theorem Um {key:Bool} {r:Rdn} (h0:r.length<=8) (h1:∀ a∈r,a.1.length<=32) (h2:∀ a∈r,a.2.length<=4096):(gI key r).length<=200000:=by
 have key1:∀ xs:List (List UInt8),xs.length<=8->(∀ x∈xs,x.length<=20000)->(Lib.join xs [43]).length<=200000:=fun xs a b=>by
  have c:=QW (sep:=[43]) xs b;have d:xs.length * (20000+[(43:UInt8)].length)<=8 * (20000+1):=afh _ a;omega
 have hm:∀ x∈r.map (avT key),x.length<=20000:=fun x hx=>by
  obtain ⟨a,ha,rfl⟩:=aey.1 hx;exact abY (h1 a ha) (h2 a ha)
 unfold gI;split
 ·refine key1 _ (by rw [Sj];simpa using h0) fun x hx=>hm x ?_
  exact (agH (r.map (avT key)) _).mem_iff.1 hx
 ·exact key1 _ (by simpa using h0) hm
theorem Ug {key:Bool} {d:List Rdn} (h0:d.length<=32) (h1:∀ r∈d,(gI key r).length<=200000):(jH key d).length<=10000000:=by
 have c:=QW (sep:=[44]) (B:=200000) (d.map (gI key)) fun x hx=>by
  obtain ⟨r,hr,rfl⟩:=aey.1 hx;exact h1 r hr
 have e:(d.map (gI key)).length * (200000+[(44:UInt8)].length)<=32 * (200000+1):=afh _ (by simpa using h0);unfold jH;omega
def prS (d:List Rdn):List UInt8×Int:=if DD 0 d≠0 then ([],DD 0 d) else if NE d=true then ([],5) else if 4096<(jH false d).length then ([],5) else (jH false d,0)
def pi (p:List UInt8×Int):AV:=.tup [.str p.1,.int .i64 p.2]
def XP (d:List Rdn):List UInt8×Int:=if (prS d).2≠0 then ([],(prS d).2) else (jH true d,0)
def UN (s:List UInt8):List UInt8×Int:=if (Iw s).2≠0 then ([],(Iw s).2) else XP (Iw s).1
theorem abp {d:List Rdn} {cap:Option Nat} (hn:d.length<=1100000) (hr:∀ r∈d,r.length<=1100000) (h:K (pi (prS d)) L) :
  aee 133 [.sl (d.map cm) d.length cap] L K:=by
 have hat:=hid (fun k=>@K9 d k);unfold prS pi at h;refine aed R8 ?_;refine abQ hn hr ?_;by_cases hc:DD 0 d=0;rotate_left
 ·rw [if_pos hc] at h;replace h:=hid h;refine sk ?_;refine wk ?_;exact ac h.out
 rw [if_neg (by simpa using hc)] at h;obtain ⟨hd32,hd8⟩:=Qh d 0 hc (by omega);rw [hc];replace hd8:=hid hd8;replace h:=hid h;clear hr hn hc;refine sk ?_;refine wk ?_;refine ai (fun n T' L'=>∃ (i:Nat) (c:Int) (Z:List Blk),n=d.length - i/\i<=d.length/\Hid (NE (d.take i)=false/\0<=c/\c<=8 * i)/\T'=[(18,.int .i64 (i:Int)),(17,.int .i64 d.length),(16,.sl (d.map cm) d.length cap),(5,.int .i64 c),(0,.sl (d.map cm) d.length cap)]/\L'=L++Z) (CutS (b:=by simp)) ⟨0,0,[],rfl,aej _,hid ⟨rfl,by omega,by omega⟩,rfl,by simp⟩ ?_;rintro _ _ _ ⟨i,c,X,rfl,hi,hI,rfl,rfl⟩;by_cases hlt:i<d.length
 ·have g1:(i:Int)<(d.length:Int):=by omega
  have g2:=aec i (by omega);have e2:=hat.out i hlt;have hrm:d.getD i []∈d:=by rw [aew,aev hlt];exact afi _
  obtain ⟨r,hri⟩:=aea (d.getD i []);have htk:d.take (i+1)=d.take i++[r]:=by rw [aeL hlt,<- hri];simp [hlt]
  rw [hri] at e2 hrm;have hr8:=(hd8.out r hrm).1;have bad:Hz r=true->K (.tup [.str [],.int .i64 5]) L:=fun e=>by
   have h':=h.out;rw [if_pos (show NE d=true from afL.2 ⟨r,hrm,e⟩)] at h';exact h'
  replace bad:=hid bad;replace htk:=hid htk;clear hri hrm;refine wk ?_;refine ai (fun n T' L'=>∃ (k:Nat) (c':Int) (Z:List Blk),n=r.length - k/\k<=r.length/\X.length<=Z.length/\Hid (Hz (r.take k)=false/\c'=c+k)/\T'=[(24,.int .i64 (k:Int)),(23,.int .i64 r.length),(22,cm r),(18,.int .i64 (i:Int)),(17,.int .i64 d.length),(16,.sl (d.map cm) d.length cap),(5,.int .i64 c'),(0,.sl (d.map cm) d.length cap)]/\L'=L++Z) (CutS (b:=by simp)) ⟨0,c,X,rfl,aej _,aeg _,hid ⟨rfl,by omega⟩,rfl,rfl⟩ ?_;rintro _ _ _ ⟨k,c',Z,rfl,hk,hXZ,hJ,rfl,rfl⟩;replace hXZ:=hid hXZ;by_cases hkl:k<r.length
  ·have g3:(k:Int)<(r.length:Int):=by omega
   have g4:=aec k (by omega);have g5:IntKind.i64.wrap (c'+1)=c'+1:=by
    obtain ⟨_,z1,z2⟩:=hI.out;have:=hJ.out.2;exact ad (by omega) (by omega)
   have e3:=dc hkl;have e4:k * 2+2<=(aH r).length:=by rw [bW];omega
   obtain ⟨⟨ty,va⟩,ha⟩:∃ a,r.getD k ([],[])=a:=⟨_,rfl⟩;have ham:(ty,va)∈r:=by rw [<- ha];simp [hkl]
   have htk2:r.take (k+1)=r.take k++[(ty,va)]:=by rw [aeL hkl,<- ha];simp [hkl]
   rw [ha] at e3;simp only [gf] at e3;have NY:4096<va.length->Hz r=true:=fun e=>afL.2 ⟨_,ham,by simpa using e⟩
   replace NY:=hid NY;replace htk2:=hid htk2;clear ha ham;by_cases hlv:(4096:Int)<(va.length:Int)
   ·have h':=hid (bad.out (NY.out (by omega)));refine wk ?_;exact ab rfl h'.out
   ·refine wk ?_;refine ag _ _ _ (by omega) (CutL (b:=?_)) ⟨k+1,c'+1,_,rfl,hkl,?_,hid ⟨?_,by have:=hJ.out.2;omega⟩,rfl,rfl⟩
    ·have:=hXZ.out;simp;omega
    ·have:=hXZ.out;simp;omega
    ·rw [htk2.out,Hz,agX,show (r.take k).any _=Hz (r.take k) from rfl,hJ.out.1];simp;omega
  ·have hke:k=r.length:=by omega
   subst hke;have g3:¬ (r.length:Int)<(r.length:Int):=by omega
   have hlr:=hJ.out.1;rw [aeE] at hlr;replace hlr:=hid hlr;refine wk ?_;refine ag _ _ _ (by omega) (CutL (b:=by simp)) ⟨i+1,c',_,rfl,hlt,hid ⟨?_,?_,?_⟩,rfl,rfl⟩
   ·rw [htk.out,NE,agX,show (d.take i).any _=NE (d.take i) from rfl,hI.out.1];simp [hlr.out]
   ·obtain ⟨_,z1,z2⟩:=hI.out;have:=hJ.out.2;omega
   ·obtain ⟨_,z1,z2⟩:=hI.out;have:=hJ.out.2;omega
 ·have hke:i=d.length:=by omega
  subst hke;have g1:¬ (d.length:Int)<(d.length:Int):=by omega
  have hld:=hI.out.1;rw [aeE] at hld;have h':=h.out;rw [if_neg (by rw [hld];simp)] at h';have hv:∀ r∈d,∀ a∈r,a.2.length<=4096:=fun r hr a ha=>by
   have h1:=afe.1 hld r hr;have h1':Hz r=false:=by simpa using h1
   unfold Hz at h1';have h2:=afe.1 h1' a ha;simpa using h2
  have hrl:∀ r∈d,(gI false r).length<=200000:=fun r hr=>Um (hd8.out r hr).1 (hd8.out r hr).2 (hv r hr)
  have htl:=Ug (by omega) hrl;replace h':=hid h';clear hld;replace hv:=hid hv;replace hrl:=hid hrl;refine wk ?_;refine aa4 (by omega) (fun r hr=>⟨by have:=(hd8.out r hr).1;omega,fun a ha=>⟨by have:=(hd8.out r hr).2 a ha;omega,by have:=hv.out r hr a ha;omega⟩⟩) (fun r hr=>by have:=hrl.out r hr;omega) (by omega) ?_;by_cases hlg:4096<(jH false d).length
  ·have k1:(4096:Int)<((jH false d).length:Int):=by omega
   have h2:=h'.out;rw [if_pos hlg] at h2;replace h2:=hid h2;clear hlg;refine sk ?_;refine wk ?_;exact ab rfl h2.out
  ·have k1:¬ (4096:Int)<((jH false d).length:Int):=by omega
   have h2:=h'.out;rw [if_neg hlg] at h2;replace h2:=hid h2;clear hlg;refine sk ?_;refine wk ?_;exact ab rfl h2.out
theorem Zn {d:List Rdn} (h:(prS d).2=0):d.length<=32/\∀ r∈d,r.length<=8/\∀ a∈r,a.1.length<=32/\a.2.length<=4096:=by
 unfold prS at h;split at h
 ·rename_i hc;exact absurd h hc
 ·rename_i hc
  split at h
  ·cases h
  ·rename_i hl
   have h0:DD 0 d=0:=by simpa using hc
   obtain ⟨h1,h2⟩:=Qh d 0 h0 (by omega);have hld:NE d=false:=by simpa using hl
   refine ⟨by omega,fun r hr=>⟨(h2 r hr).1,fun a ha=>⟨(h2 r hr).2 a ha,?_⟩⟩⟩;have k1:=afe.1 hld r hr;have k1':Hz r=false:=by simpa using k1
   unfold Hz at k1';have k2:=afe.1 k1' a ha;simpa using k2
theorem acI {d:List Rdn} {cap:Option Nat} (hn:d.length<=1100000) (hr:∀ r∈d,r.length<=1100000) (h:K (pi (XP d)) L) :
  aee 104 [.sl (d.map cm) d.length cap] L K:=by
 unfold XP pi at h;refine aed TS ?_;refine abp hn hr ?_;unfold pi;obtain ⟨⟨ps,pe⟩,hp⟩:∃ p,prS d=p:=⟨_,rfl⟩;rw [hp] at h ⊢;simp only at h ⊢;by_cases h0:pe=0
 ·subst h0;obtain ⟨q1,q2⟩:=Zn (by rw [hp]);rw [if_neg (by simp)] at h;have hrl:∀ r∈d,(gI true r).length<=200000:=fun r hr=>Um (q2 r hr).1 (fun a ha=>((q2 r hr).2 a ha).1) (fun a ha=>((q2 r hr).2 a ha).2)
  have htl:=Ug (by omega) hrl;replace h:=hid h;replace q2:=hid q2;replace hrl:=hid hrl;clear hp hr;refine sk ?_;refine wk ?_;refine aa3 (by omega) (fun r hr=>⟨by have:=(q2.out r hr).1;omega,fun a ha=>⟨by have:=((q2.out r hr).2 a ha).1;omega,by have:=((q2.out r hr).2 a ha).2;omega⟩⟩) (fun r hr=>by have:=hrl.out r hr;omega) (by omega) ?_;refine sk ?_;refine wk ?_;exact ac h.out
 ·rw [if_pos h0] at h;replace h:=hid h;clear hp hr;refine sk ?_;refine wk ?_;exact ac h.out
theorem Tp:∀ (f:Nat) (out:List Rdn) (now:Rdn) (s:List UInt8),out.length<=32->now.length<=8->(∀ r∈out,r.length<=8)->(tP f out now s).1.length<=33/\∀ r∈(tP f out now s).1,r.length<=8
 | 0,_,_,_,_,_,_=>by simp [tP]
 | f+1,out,now,s,h1,h2,h3=>by
   rw [tP];split
   ·simp
   rename_i hlim
   have hrow:∀ t v:List UInt8,(now++[(t,v)]).length<=8:=fun t v=>by simp;omega
   have hout:∀ t v:List UInt8,∀ r∈out++[now++[(t,v)]],r.length<=8:=fun t v r hr=>by
    rcases aeo.1 hr with h|h
    ·exact h3 r h
    ·rw [aeO.1 h];exact hrow t v
   split
   ·simp
   split
   ·simp
   split
   ·simp
   split
   ·simp
   split
   ·simp
   split
   ·exact ⟨by simp;omega,hout _ _⟩
   split
   ·exact Tp f _ _ _ (by simp;omega) (by simp) (hout _ _)
   ·exact Tp f _ _ _ h1 (hrow _ _) h3
theorem WW (s:List UInt8):(Iw s).1.length<=33/\∀ r∈(Iw s).1,r.length<=8:=by
 unfold Iw;split
 ·simp
 split
 ·simp
 ·exact Tp _ _ _ _ (by simp) (by simp) (by simp)
theorem acj {s:List UInt8} (h:K (pi (UN s)) L):aee 81 [.str s] L K:=by
 unfold UN at h;refine aed Vg ?_;refine abq ?_;obtain ⟨q1,q2⟩:=WW s;obtain ⟨⟨pd,pe⟩,hp⟩:∃ p,Iw s=p:=⟨_,rfl⟩;rw [hp] at h q1 q2 ⊢;simp only [VQ] at h q1 q2 ⊢;clear hp;by_cases h0:pe=0
 ·subst h0;rw [if_neg (by simp)] at h;replace h:=hid h;replace q2:=hid q2;refine sk ?_;refine wk ?_;refine acI (by omega) (fun r hr=>by have:=q2.out r hr;omega) ?_;have h':=h.out;unfold pi at h' ⊢;replace h':=hid h';refine sk ?_;refine wk ?_;exact ac h'.out
 ·rw [if_pos h0] at h;unfold pi at h;replace h:=hid h;clear q1 q2;refine sk ?_;refine wk ?_;exact ac h.out
end Go.Proofs.YtigifoeopopnbaaGreatDoor.Av
