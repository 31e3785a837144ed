/- Joined texts of the walk, made small by a program. -/
import Derived.Shelf.Strings.Builder1
import Derived.Shelf.Strings.Builder2
import Derived.Shelf.Strings.OnBuilder
import Derived.Shelf.Small.Bits
import Derived.Shelf.Small.Strs
import Derived.Shelf.Strconv.Itoa0
import Derived.Shelf.Strconv.Itoa1
import Derived.Shelf.LaysM
import Derived.Shelf.Strconv.Itoa2
import Derived.Shelf.Strconv.Itoa3
import Derived.Shelf.Strconv.Itoa4
import Derived.Shelf.Strconv.ParseIntEmpty
import Derived.Shelf.Strconv.Clone
import Derived.Shelf.Strconv.SyntaxError
import Derived.Shelf.LaysC
import Derived.Shelf.Strconv.ToError
import Derived.Shelf.Strconv.Lower
import Derived.Shelf.Strconv.ParseUint10
import Derived.Shelf.Strconv.ParseUint10Empty
import Derived.Shelf.Strconv.ParseUint10Any
import Derived.Shelf.Strconv.ParseInt10
import Derived.Shelf.Strconv.RangeError
import Derived.Shelf.Strconv.ToErrorRange
import Derived.Shelf.Strconv.ParseUintEmpty
import Derived.Shelf.Strconv.ParseUint10b64
import Derived.Shelf.Strconv.ParseUint10b32
import Derived.Shelf.Strconv.ParseUint10b16
import Derived.Shelf.Strconv.ParseUint10b8
import Derived.Shelf.Strconv.ParseUint10At
import Derived.Shelf.Strconv.ParseInt10At64
import Derived.Shelf.Strconv.ParseInt10At32
import Derived.Shelf.Strconv.ParseInt10At16
import Derived.Shelf.Strconv.ParseInt10At8
import Derived.Shelf.Strconv.ParseInt10All
import Derived.Shelf.Strconv.ParseIntPublic10
import Derived.Shelf.Strconv.ErrVarParseInt
import Derived.Shelf.Strings.Search1
import Derived.Shelf.Strings.Search2
import Derived.Shelf.Strings.Search3
import Derived.Shelf.Strings.Cut
import Derived.Shelf.Strings.Shaped
import Derived.Shelf.Sort.Plain
import Derived.Shelf.GgClosure.StringsIndexFunc
import Derived.Ground.GgwProg
import Derived.Shelf.GgClosure.StringsIndexFuncTop
import Derived.Shelf.GgClosure.StringsRunes
import Derived.Shelf.Strings.Prefix
import Derived.Ground.Names2Prog
import Derived.Shelf.Slices.CompactI
import Derived.Shelf.Slices.SearchI
import Derived.Shelf.Slices.Cells
import Derived.Shelf.Slices.In.SortNone
import Derived.Shelf.Slices.Empties
import Derived.Test.YtcmfcpjnhephaaaGreatDoorProg
import Derived.Test.YtcmfcpjnhephaaaGreatDoorFk5
import Derived.Test.YtcmfcpjnhephaaaGreatDoorFk6
import Derived.Test.YtcmfcpjnhephaaaGreatDoorFk4
import Derived.Test.YtcmfcpjnhephaaaGreatDoorRows
import Derived.KernelRfl
import Derived.Test.YtcmfcpjnhephaaaGreatDoorFk9
import Derived.Test.YtcmfcpjnhephaaaGreatDoorFk8
set_option linter.unusedSimpArgs false
set_option linter.unusedVariables false
namespace Go.Proofs
open Go.Shelf
def Tryz.lays190_ren:Go.Shelf.Ren:=⟨fun|190=>214|125=>149|258=>235|128=>187|129=>188|302=>243|303=>244|304=>245|305=>246|306=>247|307=>248|308=>249|309=>250|310=>251|333=>254|329=>217|330=>218|334=>255|335=>256|336=>257|344=>260|n=>n,fun|31=>22|9=>9|3=>3|46=>176|0=>0|51=>76|53=>232|4=>4|183=>240|182=>239|131=>133|5=>5|218=>265|222=>125|228=>288|229=>156|n=>n,fun|n=>n⟩
theorem Tryz.lays190:Go.Proofs.Lays.n190 Tryz.prog Tryz.lays190_ren:={
 mixed:=by kernel_rfl
 f125:=Tryz.func149.trans (congrArg some (by kernel_rfl))
 f128:=Tryz.func187.trans (congrArg some (by kernel_rfl))
 f129:=Tryz.func188.trans (congrArg some (by kernel_rfl))
 f190:=Tryz.func214.trans (congrArg some (by kernel_rfl))
 f258:=Tryz.func235.trans (congrArg some (by kernel_rfl))
 f302:=Tryz.func243.trans (congrArg some (by kernel_rfl))
 f303:=Tryz.func244.trans (congrArg some (by kernel_rfl))
 f304:=Tryz.func245.trans (congrArg some (by kernel_rfl))
 f305:=Tryz.func246.trans (congrArg some (by kernel_rfl))
 f306:=Tryz.func247.trans (congrArg some (by kernel_rfl))
 f307:=Tryz.func248.trans (congrArg some (by kernel_rfl))
 f308:=Tryz.func249.trans (congrArg some (by kernel_rfl))
 f309:=Tryz.func250.trans (congrArg some (by kernel_rfl))
 f310:=Tryz.func251.trans (congrArg some (by kernel_rfl))
 f329:=Tryz.func217.trans (congrArg some (by kernel_rfl))
 f330:=Tryz.func218.trans (congrArg some (by kernel_rfl))
 f333:=Tryz.func254.trans (congrArg some (by kernel_rfl))
 f334:=Tryz.func255.trans (congrArg some (by kernel_rfl))
 f335:=Tryz.func256.trans (congrArg some (by kernel_rfl))
 f336:=Tryz.func257.trans (congrArg some (by kernel_rfl))
 f344:=Tryz.func260.trans (congrArg some (by kernel_rfl))
 t0:=Tryz.underlying0
 a0:=Tryz.isAgg0
 z0:=Tryz.sizeOf0
 v0:=Tryz.zeroValue0
 t3:=Tryz.underlying3
 a3:=Tryz.isAgg3
 z3:=Tryz.sizeOf3
 v3:=Tryz.zeroValue3
 t4:=Tryz.underlying4
 a4:=Tryz.isAgg4
 z4:=Tryz.sizeOf4
 v4:=Tryz.zeroValue4
 t5:=Tryz.underlying5
 a5:=Tryz.isAgg5
 z5:=Tryz.sizeOf5
 v5:=Tryz.zeroValue5
 t9:=Tryz.underlying9
 a9:=Tryz.isAgg9
 z9:=Tryz.sizeOf9
 v9:=Tryz.zeroValue9
 t31:=Tryz.underlying22
 a31:=Tryz.isAgg22
 z31:=Tryz.sizeOf22
 v31:=Tryz.zeroValue22
 t46:=Tryz.underlying176
 a46:=Tryz.isAgg176
 z46:=Tryz.sizeOf176
 v46:=Tryz.zeroValue176
 t51:=Tryz.underlying76
 a51:=Tryz.isAgg76
 z51:=Tryz.sizeOf76
 v51:=Tryz.zeroValue76
 t53:=Tryz.underlying232
 a53:=Tryz.isAgg232
 z53:=Tryz.sizeOf232
 v53:=Tryz.zeroValue232
 t131:=Tryz.underlying133
 a131:=Tryz.isAgg133
 z131:=Tryz.sizeOf133
 v131:=Tryz.zeroValue133
 t182:=Tryz.underlying239
 a182:=Tryz.isAgg239
 z182:=Tryz.sizeOf239
 v182:=Tryz.zeroValue239
 t183:=Tryz.underlying240
 a183:=Tryz.isAgg240
 z183:=Tryz.sizeOf240
 v183:=Tryz.zeroValue240
 t218:=Tryz.underlying265
 a218:=Tryz.isAgg265
 z218:=Tryz.sizeOf265
 v218:=Tryz.zeroValue265
 t222:=Tryz.underlying125
 a222:=Tryz.isAgg125
 z222:=Tryz.sizeOf125
 v222:=Tryz.zeroValue125
 t228:=Tryz.underlying288
 a228:=Tryz.isAgg288
 z228:=Tryz.sizeOf288
 v228:=Tryz.zeroValue288
 t229:=Tryz.underlying156
 a229:=Tryz.isAgg156
 z229:=Tryz.sizeOf156
 v229:=Tryz.zeroValue156 }
open Go.Sort Go.RowKit in
theorem Tryz.slices_Sort_string (blk off cap:Nat) (ss:List (List UInt8)) (w:World) (hH:Holds encStr w blk off ss.toArray) (hblk:blk<w.heap.size) (hsz:ss.length<4611686018427387904) :
 Calls Tryz.prog 214 #[.slice (some ⟨blk,off,none⟩) ss.length cap] w fun e w' =>
  e=.returned (.tuple #[])/\∃ n os,w'=grow (putRow encStr (Sort.ahead w n) blk off (ss.mergeSort fun x y=>decide (x<=y)).toArray) os:=Any.slices_Sort_string Tryz.lays190 blk off cap ss w hH hblk hsz
open Go.RowKit Go.Sort in
theorem Tryz.slices_Sort_string_none (p:Option Addr) (cap:Nat) (w:World) :
 Calls Tryz.prog 214 #[.slice p 0 cap] w fun e w'=>e=.returned (.tuple #[])/\w'=w:=Any.slices_Sort_string_none Tryz.lays190 p cap w
end Go.Proofs
namespace Go.Proofs.YtcmfcpjnhephaaaGreatDoor.Av
open Go Go.Sort
variable {L:List Blk} {K:Zy}
abbrev ce (xs:List (List UInt8)):List AV:=xs.map AV.str
theorem LG {xs:List (List UInt8)} {sep:List UInt8} {cap:Option Nat} (hn:xs.length<=1100000) (hl:(Lib.join xs sep).length<=140737488355328) (h:K (.str (Lib.join xs sep)) L) :
  Zx 215 [.sl (ce xs) xs.length cap,.str sep] L K :=
 d6 Tryz.func215 rfl (by kernel_rfl) (fun w0 S0 E w vs hR hv=>by
  simp only [VRL,VR] at hv;obtain ⟨_,_,rfl,⟨p,c,rfl,hle,_,hp⟩,_,_,rfl,rfl,rfl⟩:=hv;by_cases hx:xs=[]
  ·subst hx;exact (Tryz.strings_Join_none p c ⟨⟨sep⟩⟩ w).mono fun e w' ⟨he,hw⟩=>⟨_,he,by simp [VR,Lib.join],by subst hw;exact Dd.refl _⟩
  ·rcases hp with ⟨e0,_⟩|⟨b,o,rfl,hcells⟩
   ·exact absurd (aaj.1 e0) hx
   ·have hmem:∀ (j:Nat) x,(xs.map fun s=>(⟨⟨s⟩⟩:ByteArray))[j]?=some x->w.cell? ⟨b,o+j,none⟩=some (.string x):=fun j x hj=>by
     rw [aag] at hj;rcases hxs:xs[j]? with _|s
     ·rw [hxs] at hj;cases hj
     ·rw [hxs] at hj;simp only [ZV,ZB] at hj;subst hj;obtain ⟨v,g1,g2⟩:=hcells.get (i:=j) (a:=.str s) (by rw [aag,hxs];rfl);simp only [VR] at g2;subst g2;exact hR.mem _ _ _ g1
    have hb:b<w.heap.size:=by
     have hx0:0<xs.length:=aaQ.2 hx;have h0:=hmem 0 ⟨⟨xs[0]⟩⟩ (by rw [aag,ZR hx0];rfl);rcases ZT b w.heap.size with g|g
     ·exact g
     ·simp [World.cell?,abP g] at h0
    have hmm:(xs.map fun s=>(⟨⟨s⟩⟩:ByteArray)).map (·.data.toList)=xs:=by rw [Z4];exact List.map_id'' (fun _=>rfl) xs
    have key:=Tryz.strings_Join b o c (xs.map fun s=>(⟨⟨s⟩⟩:ByteArray)) ⟨⟨sep⟩⟩ w hmem hb (by rw [Z9];omega) (by rw [Z9];exact hle) (by rw [hmm];exact hl);rw [hmm] at key;simp only [Z9] at key;exact key.mono fun e w' ⟨he,hbel⟩=>⟨_,he,by simp [VR],⟨fun b hb=>hbel.block b hb,hbel.size,hbel.os,hbel.tape,hbel.output⟩⟩) h
theorem Rel.putStrs {w0:World} {S0:SB} {E:Env} {L:List Blk} {w:World} (h:Rel w0 S0 E L w) {i:Nat} {xs d:List (List UInt8)} {rest:List AV} {c:Loc} (hi:L[i]?=some (.cells (ce xs++rest))) (hc:E.loc i=some c) (hd:d.length=xs.length) (q:Nat) :
  Rel w0 S0 E (L.set i (.cells (ce d++rest))) (putRow encStr (Sort.ahead w q) c.blk c.off d.toArray):=by
 obtain ⟨c',cs,ty,fr,h1,h2,h3,h4,h5,h6⟩:=h.blk i _ hi;rw [hc] at h1;cases h1;have hlt:c.blk<w.heap.size:=(aaE.1 h2).1;have e1:(putRow encStr (Sort.ahead w q) c.blk c.off d.toArray).heap[c.blk]?=some (.cells (putCells encStr c.off d.toArray cs) ty fr):=by
  simp [putRow,mapBlock,Sort.ahead,abQ,h2,onCells]
 have hlen:(ce xs++rest).length=xs.length+rest.length:=by simp
 refine h.turn (k':=.cells (ce d++rest)) hi rfl hc (by simp) (fun b hb=>?_) rfl rfl rfl ⟨c,_,ty,fr,hc,e1,by simp [putCells,h3],?_,fun j a ha=>?_,h6⟩ (fun _ _ e=>by cases e)
 ·have:c.blk≠b:=fun e=>hb e.symm
  simp [putRow,mapBlock,Sort.ahead,abQ,this]
 ·rw [hlen] at h4;simp only [ZQ,Z9,hd];omega
 ·rw [hlen] at h4;have hj:j<d.length+rest.length:=by
   have:=(Zz.1 ha).1;simpa using this
  have hcs:c.off+j<cs.size:=by omega
  have ep:(putCells encStr c.off d.toArray cs)[c.off+j]?=some (if c.off<=c.off+j/\c.off+j<c.off+d.length then encStr (d.toArray[c.off+j - c.off]!) else cs[c.off+j]):=by
   simp [putCells,hcs]
  by_cases hjd:j<d.length
  ·have ea:a=.str d[j]:=by
    rw [ZM (by simpa using hjd)] at ha;simpa [hjd] using ha.symm
   subst ea;refine ⟨_,ep,?_⟩;rw [if_pos (by omega),show c.off+j - c.off=j by omega];simp [VR,encStr,hjd]
  ·have ha':(ce xs++rest)[j]?=some a:=by
    rw [Z5 (by simp;omega)] at ha ⊢;simpa [hd] using ha
   obtain ⟨v,g1,g2⟩:=h5 j a ha';refine ⟨v,?_,g2⟩;rw [ep,if_neg (by omega),<- g1];simp [hcs]
theorem Lc {w0:World} {S0:SB} {E:Env} {L:List Blk} {w:World} (h:Rel w0 S0 E L w) {i:Nat} {xs:List (List UInt8)} {rest:List AV} {c:Loc} (hi:L[i]?=some (.cells (ce xs++rest))) (hc:E.loc i=some c) :
  Holds encStr w c.blk c.off xs.toArray/\c.blk<w.heap.size:=by
 obtain ⟨c',cs,ty,fr,h1,h2,h3,h4,h5,h6⟩:=h.blk i _ hi;rw [hc] at h1;cases h1;refine ⟨fun j hj=>?_,(aaE.1 h2).1⟩;have hj':j<xs.length:=by simpa using hj
 obtain ⟨v,g1,g2⟩:=h5 j (.str xs[j]) (by rw [ZM (by simpa using hj')];simp [hj']);simp only [VR] at g2;subst g2;refine ⟨by simp [World.cell?,encStr,h2,g1,hj'],?_⟩;have h7:=h6 (c.off+j) (by omega) (by simp only [ZQ,Z9] at h4;omega);simp only [World.frozen?,h2];obtain ⟨f1,f2⟩:=fr;simp only at h7;simp only [abY,decide_eq_false_iff_not];omega
theorem vS {P:Program} {f:FuncId} {fn:Func} (hf:P.funcs[f]?=some fn) (hb:fn.body.isSome=true) (hn:(fn.name == "runtime.NumGoroutine")=false) (args:Array Value) (w:World):(callFunc f args).run P w=.ok (.enter f args) w:=by
 simp only [callFunc,ZG,run_program,ZH,hf,hn];cases h:fn.body with
 | none=>simp [h] at hb
 | some c=>simp
def du (xs:List (List UInt8)):List (List UInt8):=xs.mergeSort fun x y=>decide (x<=y)
theorem WD {xs:List (List UInt8)} {i:Nat} {cp:Option Nat} {rest:List AV} (hx:xs≠[]) (hn:xs.length<=1100000) (hL:L[i]?=some (.cells (ce xs++rest))) (h:K (.tup []) (L.set i (.cells (ce (du xs)++rest)))) :
  Zx 214 [.lsl i 0 xs.length cp 1] L K:=fun w0 S0 E w vs hR hv=>by
 simp only [VRL,VR] at hv;obtain ⟨_,_,rfl,⟨c,rc,d,hc,rfl,hd,hle,_,_⟩,rfl⟩:=hv;have hpos:0<xs.length:=aaQ.2 hx;have hd':d=c.off:=by have:=hd (by omega);omega
 subst hd';obtain ⟨hH,hlt⟩:=Lc hR hL hc;refine .inl ⟨vS Tryz.func214 rfl (by kernel_rfl) _ _,(Tryz.slices_Sort_string c.blk c.off rc xs w hH hlt (by omega)).mono ?_⟩;rintro e w' ⟨rfl,q,os,rfl⟩;have r1:=hR.putStrs hL hc (d:=du xs) (by simp [du]) q;refine ⟨E,_,_,_,rfl,.refl E,h,by simp [VR,VRL],r1.grown ?_⟩;exact ⟨fun b hb=>acw hb,by simp [grow],rfl,rfl,rfl⟩
theorem Um {cap:Option Nat} (h:K (.tup []) L):Zx 214 [.sl [] 0 cap] L K :=
 d6 Tryz.func214 rfl (by kernel_rfl) (fun w0 S0 E w vs hR hv=>by
  simp only [VRL,VR] at hv;obtain ⟨_,_,rfl,⟨p,c,rfl,_⟩,rfl⟩:=hv;exact (Tryz.slices_Sort_string_none p c w).mono fun e w' ⟨he,hw⟩=>⟨_,he,by simp [VR,VRL],by subst hw;exact Dd.refl _⟩) h
theorem W4 {xs:List (List UInt8)} {sep:List UInt8} {i:Nat} {cp:Option Nat} (hx:xs≠[]) (hn:xs.length<=1100000) (hl:(Lib.join xs sep).length<=140737488355328) (hL:L[i]?=some (.cells (ce xs))) (h:K (.str (Lib.join xs sep)) L) :
  Zx 215 [.lsl i 0 xs.length cp 1,.str sep] L K:=fun w0 S0 E w vs hR hv=>by
 simp only [VRL,VR] at hv;obtain ⟨_,_,rfl,⟨c,rc,d,hc,rfl,hd,hle,_,_⟩,_,_,rfl,rfl,rfl⟩:=hv;have hpos:0<xs.length:=aaQ.2 hx;have hd':d=c.off:=by have:=hd (by omega);omega
 subst hd';obtain ⟨hH,hlt⟩:=Lc (rest:=[]) hR (by simpa using hL) hc;have hmem:∀ (j:Nat) x,(xs.map fun s=>(⟨⟨s⟩⟩:ByteArray))[j]?=some x->w.cell? ⟨c.blk,c.off+j,none⟩=some (.string x):=fun j x hj=>by
  have hjl:j<xs.length:=by have:=(Zz.1 hj).1;simpa using this
  have e:=(hH j (by simpa using hjl)).1;rw [aag,ZR hjl] at hj;simp only [ZV,ZB] at hj;subst hj;rw [e];simp [encStr,hjl]
 have hmm:(xs.map fun s=>(⟨⟨s⟩⟩:ByteArray)).map (·.data.toList)=xs:=by rw [Z4];exact List.map_id'' (fun _=>rfl) xs
 have key:=Tryz.strings_Join c.blk c.off rc (xs.map fun s=>(⟨⟨s⟩⟩:ByteArray)) ⟨⟨sep⟩⟩ w hmem hlt (by rw [Z9];omega) (by rw [Z9];exact hle) (by rw [hmm];exact hl);rw [hmm] at key;simp only [Z9] at key;refine .inl ⟨vS Tryz.func215 rfl (by kernel_rfl) _ _,key.mono ?_⟩;rintro e w' ⟨rfl,hbel⟩;exact ⟨E,_,_,_,rfl,.refl E,h,by simp [VR],hR.grown ⟨fun b hb=>hbel.block b hb,hbel.size,hbel.os,hbel.tape,hbel.output⟩⟩
end Go.Proofs.YtcmfcpjnhephaaaGreatDoor.Av
set_option maxRecDepth 100000
namespace Go.Proofs.YtcmfcpjnhephaaaGreatDoor.Av
open Go
def JU:LSO:=[Am 4]
def JT:LSO:=[Aj 5]
def JS:LSO:=[Aa 11 0,Al 12 11,Ab 13 0]
def JR:LSO:=[Ak 14 13 12]
def JQ:LSO:=[An 15 1 11 13,Ac 16 1 15,Aa 7 16]
def JP:LSO:=[Aj 8]
def JO:LSO:=[Aa 17 7,Al 18 17,Ab 19 0]
def JN:LSO:=[Ak 20 19 18]
def JM:LSO:=[An 21 2 17 19,Aw 22 2 21,AZ 10,Ao 2 10 22]
def JL:LSO:=[Aa 23 1]
def HT:List (ai×Kd) :=
 [A0 24 0 10,Ax 25 1 24 0 0,AK 26 38 25 0 0,A0 27 1 10,Ax 28 1 27 0 0]
def FE:List ai :=
 [⟨(some 29),(.call 95 [(tm 28)]),none⟩,⟨(some 30),(.build [(.str []),(.str [])] [(0,(1,(tm 26))),(1,(1,(tm 29)))]),none⟩,⟨none,(.store 2 (tm 10) (tm 30)),none⟩]
def HS:List (ai×Kd) :=
 [A4 31 8,A0 32 0 10,Ax 33 1 32 0 0,od 34 (.bin .add (tm 33) (.av (.str [61]))) .pure,A0 35 1 10,Ax 36 1 35 0 0,AK 37 213 36 0 0,od 38 (.bin .add (tm 34) (tm 37)) .pure,
 od 39 (.bslice false 1 1 [(.str [])] [(0,(1,(tm 38)))]) (.read 0 0)]
def FD:List ai :=
 [⟨(some 40),(.app 2 1 16 [(.str [])] (tm 31) (tm 39)),none⟩,⟨(some 8),(.mv (tm 40)),none⟩]
def HR:LSO:=[Ah 41 19 1,Aa 19 41]
def HQ:LSO:=[Aa 42 1]
def HP:LSO:=[Aa 43 8,Ai 44 214 43]
def HO:LSO:=[Aa 45 5,Aa 46 8,o1 47 (.call 215 [(tm 46),(.av (.str [43]))]),Br 48 47,Bj 49 45 48,Aa 5 49]
def HN:LSO:=[Ah 50 13 1,Aa 13 50]
def HM:LSO:=[Aa 51 5,o1 52 (.call 215 [(tm 51),(.av (.str [44]))]),Aa 4 52]
def q9:br:=⟨53,(.seq (.sreg JU [])
 (.seq (.sreg JT [])
 (.seq (.seq (.sreg JS [])
 (.block 0 (.loop (.seq (.sreg JR [])
 (.seq (.cond (tm 14) .skip
 (.exit 0))
 (.seq (.block 1 (.seq (.sreg JQ Ce)
 (.seq (.sreg JP [])
 (.seq (.seq (.sreg JO [])
 (.block 2 (.loop (.seq (.sreg JN [])
 (.seq (.cond (tm 20) .skip
 (.exit 2))
 (.seq (.block 3 (.seq (.sreg JM Ce)
 (.seq (.seq (.sreg JL [])
 (.cond (tm 23) (.dregM HT FE Cp)
 .skip))
 (.dregM HS FD C6))))
 (.sreg HR Cd)))))))
 (.seq (.seq (.sreg HQ [])
 (.cond (tm 42) (.sreg HP C3)
 .skip))
 (.sreg HO Ch))))))
 (.sreg HN Cd)))))))
 (.seq (.sreg HM Ce)
 .ret)))),[(.tmp 4)]⟩
attribute [push_cast] JU JT JS JR JQ JP JO JN JM JL HT FE HS FD HR HQ HP HO HN HM
theorem IN:bt Tryz.prog (fun r i=>if r=11/\i=9 then 2 else 1) 178=some q9.raw:=by kernel_rfl
attribute [push_cast] q9
variable {L:List Blk} {K:Zy}
set_option maxHeartbeats 8000000
set_option maxRecDepth 100000
def avT (key:Bool) (a:Ava):List UInt8:=if key=true then ab a.1++[61]++dS (bD a.2) else a.1++[61]++dS a.2
def c8 (key:Bool) (r:Rdn):List UInt8:=Lib.join (if key=true then du (r.map (avT key)) else r.map (avT key)) [43]
def dJ (key:Bool) (d:List Rdn):List UInt8:=Lib.join (d.map (c8 key)) [44]
theorem G0 (n:Nat):∀ (s:List UInt8) (i:Nat),(wrL n i s).length<=3 * s.length
 | [],_=>by simp [wrL]
 | c::s,i=>by
   have h1:=G0 n s (i+1);have h2:=Wv i n c;simp only [wrL,ZQ,ZN];omega
theorem Sg (l:List (List UInt8)):AV.frzL (ce l)=ce l:=by
 rw [AV.frzL_eq,Z4];rfl
theorem RD {xs:List (List UInt8)} {sep:List UInt8} {i n:Nat} (hx:n=xs.length) (hn:xs.length<=1100000) (hl:(Lib.join xs sep).length<=140737488355328) (h:K (.str (Lib.join xs sep)) L) :
  Zx 215 [.gsl (ce xs) n i 1,.str sep] L K:=by
 subst hx;exact rb (by simpa only [AV.frzL,AV.frz,Sg] using LG (cap:=none) hn hl h)
theorem Pu {xs:List (List UInt8)} {sep:List UInt8} {i n:Nat} {cp:Option Nat} (he:n=xs.length) (hx:xs≠[]) (hn:xs.length<=1100000) (hl:(Lib.join xs sep).length<=140737488355328) (hL:L[i]?=some (.cells (ce xs))) (h:K (.str (Lib.join xs sep)) L) :
  Zx 215 [.lsl i 0 n cp 1,.str sep] L K:=by
 subst he;exact W4 hx hn hl hL h
theorem WB {d:List Rdn} {cap:Option Nat} (hn:d.length<=1000) (hr:∀ r∈d,r.length<=1000/\∀ a∈r,a.1.length<=10000/\a.2.length<=10000) (hj1:∀ r∈d,(c8 false r).length<=140737488355328) (hj2:(dJ false d).length<=140737488355328) (h:K (.str (dJ false d)) L) :
  Zx 178 [.sl (d.map cf) d.length cap,.bool false] L K:=by
 replace h:=hid h;have hat:=hid (fun k=>@Gp d k);replace hr:=hid hr;replace hj1:=hid hj1;have s4:∀ (W:List Blk) (j:Nat) (A:Blk),L.length<=j->(L++W).set j A=L++W.set (j - L.length) A:=fun W j A hj=>aaz _ _ hj
 replace s4:=hid s4;refine Zw IN ?_;refine cG (l:=[]) (n:=0) 5 1 rfl (aae 1).symm ?_;refine ak (fun n T' L'=>∃ (i:Nat) (all:List (List UInt8)) (Z:List Blk),n=d.length - i/\i<=d.length/\Hid (all=(d.take i).map (c8 false))/\L'[L.length]?=some (.spare i 1)/\T'=[(13,.int .i64 (i:Int)),(12,.int .i64 d.length),(11,.sl (d.map cf) d.length cap),(5,.gsl (ce all) i L.length 1),(1,.bool false)]/\L'=L++Z) (CutS (b:=by simp)) ⟨0,[],[.spare 0 1],rfl,ZI _,hid rfl,by simp,rfl,rfl⟩ ?_;rintro _ _ _ ⟨i,all,X,rfl,hi,hall,ho,rfl,rfl⟩;by_cases hlt:i<d.length
 ·have g1:(i:Int)<(d.length:Int):=by omega
  have g2:=Zv i (by omega);have e2:=hat.out i hlt;have hrm:d.getD i []∈d:=by rw [Z2,ZR hlt];exact aaI _
  have hrl:=hr.out _ hrm;have hjr:=hj1.out _ hrm;obtain ⟨r,hri⟩:=Zt (d.getD i []);have htk:d.take (i+1)=d.take i++[r]:=by rw [ZY hlt,<- hri];simp [hlt]
  rw [hri] at e2 hrl hjr;clear hri hrm;obtain ⟨hrl1,hrl2⟩:=hrl;replace hrl2:=hid hrl2;replace htk:=hid htk;have hX:=(Zz.1 ho).1;rw [ZQ] at hX;replace hX:=hid hX;refine wk ?_;refine ak (fun n T' L'=>∃ (k:Nat) (v:AV) (Z:List Blk),n=r.length - k/\k<=r.length/\X.length<=Z.length/\L'[L.length]?=some (.spare i 1)/\Hid ((v=.sl [] 0 (some 0)/\k=0)\/∃ j,(0<k/\L.length<j)/\v=.lsl j 0 k none 1/\L'[j]?=some (.cells (ce ((r.take k).map (avT false)))))/\T'=[(19,.int .i64 (k:Int)),(18,.int .i64 r.length),(17,cf r),(8,v),(13,.int .i64 (i:Int)),(12,.int .i64 d.length),(11,.sl (d.map cf) d.length cap),(5,.gsl (ce all) i L.length 1),(1,.bool false)]/\L'=L++Z) (CutS (b:=by simp)) ⟨0,_,X,rfl,ZI _,ZA _,ho,hid (.inl ⟨rfl,rfl⟩),rfl,rfl⟩ ?_;rintro _ _ _ ⟨k,v,Z,rfl,hk,hXZ,ho2,hv,rfl,rfl⟩;replace hXZ:=hid hXZ;by_cases hkl:k<r.length
  ·have g3:(k:Int)<(r.length:Int):=by omega
   have g4:=Zv k (by omega);have e3:=eM hkl;have e4:k * 2+2<=(a7 r).length:=by rw [dt];omega
   obtain ⟨⟨ty,va⟩,ha⟩:∃ a,r.getD k ([],[])=a:=⟨_,rfl⟩;have ham:(ty,va)∈r:=by rw [<- ha];simp [hkl]
   have htk2:(r.take (k+1)).map (avT false)=(r.take k).map (avT false)++[ty++61::dS va]:=by
    rw [ZY hkl];have:r[k]=(ty,va):=by rw [<- ha];simp [hkl]
    rw [this];simp [avT]
   rw [ha] at e3;simp only [mL] at e3;have hva:=hrl2.out _ ham;simp only at hva;have hva':va.length<=100000:=by omega
   have hwl:=G0 va.length va 0;have b1:(ty.length:Int)+1<=9223372036854775807:=by omega
   have b2:(ty.length:Int)+1+((dS va).length:Int)<=9223372036854775807:=by unfold dS;omega
   clear hwl ha ham hva;replace htk2:=hid htk2;have q1:(k+1) * 16<=140737488355328:=by omega
   have q2:k+1<=140737488355328:=by omega
   have q3:k<=140737488355327:=by omega
   rcases hv.out with ⟨rfl,hk0⟩|⟨j,⟨hk1,hBj⟩,rfl,hj⟩
   ·replace hk0:=hid hk0;have kk1:=@hid _ (fun L K=>er hva' (L:=L) (K:=K));refine wk ?_;refine aj _ _ _ (by omega) (CutL (b:=?_)) ⟨k+1,.lsl (L.length+(Z.length+1)) 0 1 none 1,_,rfl,hkl,?_,?_,hid (.inr ⟨L.length+(Z.length+1),⟨by omega,by omega⟩,by rw [hk0.out],?_⟩),rfl,rfl⟩
    ·have:=hXZ.out;simp;omega
    ·have:=hXZ.out;simp;omega
    ·rw [<- ZO,ZM (Zz.1 ho2).1];exact ho2
    ·rw [lX,lX,htk2.out,hk0.out];rfl
   ·obtain ⟨cur,hcur⟩:=Zt ((r.take k).map (avT false));have hcl:cur.length=k:=by rw [<- hcur];simp;omega
    rw [hcur] at hj;have f1:(L++(Z++[Blk.cells [.str ty,.str va]]))[j]?=some (.cells (ce cur)):=by
     rw [<- ZO,ZM (Zz.1 hj).1];exact hj
    have f2:(L++(Z++[Blk.cells [.str ty,.str va]])).set j .dead=L++(Z++[Blk.cells [.str ty,.str va]]).set (j - L.length) .dead:=s4.out _ _ _ (by omega);have f3:k<=(ce cur).length:=by simp [hcl]
    have f4:(ce cur).take k=ce cur:=aaR (by simp [hcl]);replace hcur:=hid hcur;replace hcl:=hid hcl;have hjL:=hid (show j≠L.length by omega);have f2':=hid f2
    repeat' first
     | refine bb ?_
     | (first|refine aU (by kernel_rfl) ?_|refine aA (by kernel_rfl) ?_|refine aD ?_|refine bS ?_|refine bh (fun _=>?_)|refine ay ?_|refine aW ?_|refine er hva' ?_|refine bg (er hva' ⟨rfl,rfl⟩) (er hva' ⟨rfl,rfl⟩) ?_|refine aL (er hva' ⟨rfl,rfl⟩) ?_)
       refine sm ?_
     | (first|refine aP (by kernel_rfl) ?_|refine aQ ?_|refine aC ?_|refine aV ?_|refine bq (ax ?_))
       refine sl ?_
     | exact bj
     | first|apply bm|apply aR|apply bo|apply aS|apply bp|apply aT
     | refine aG ?_
     | refine aB ?_
     | first|refine aE rfl ?_|refine aF rfl ?_|refine an rfl ?_ ?_|refine aI rfl (fun _=>?_) (fun _=>?_)|refine aH rfl (fun _=>?_) (fun _=>?_)
     | ((first|refine am (fun _=>?_) (fun _=>?_)|refine aw (fun _=>?_) (fun _=>?_))<;>try refine sm ?_)
     | refine And.intro trivial ?_
     | refine And.intro (by omega) ?_
     | refine aM rfl (fun _=>?_) (fun _=>?_)
     | refine And.intro ?_ ?_
    ·rw [hcl.out];exact ZA _
    ·have hA:((Z++[Blk.cells [.str ty,.str va]]).set (j - L.length) .dead).length=Z.length+1:=by simp
     refine aj _ _ _ (by omega) (CutL (b:=?_)) ⟨k+1,.lsl (L.length+(Z.length+1)) 0 (k+1) none 1,_,rfl,hkl,?_,?_,hid (.inr ⟨L.length+(Z.length+1),⟨by omega,by omega⟩,rfl,?_⟩),rfl,rfl⟩
     ·have:=hXZ.out;simp;omega
     ·have:=hXZ.out;simp;omega
     ·rw [<- ZO,<- f2'.out,ZM (by simp),ZU hjL.out,<- ZO,ZM (Zz.1 ho2).1];exact ho2
     ·rw [lX,<- hA,lY,htk2.out,hcur.out];simp
  ·have hke:k=r.length:=by omega
   subst hke;have g3:¬ (r.length:Int)<(r.length:Int):=by omega
   have q4:(i+1) * 16<=140737488355328:=by omega
   have q5:i+1<=140737488355328:=by omega
   have hrow:c8 false r=Lib.join (r.map (avT false)) [43]:=by simp [c8]
   rw [hrow] at hjr;have htk3:(d.take (i+1)).map (c8 false)=all++[Lib.join (r.map (avT false)) [43]]:=by
    rw [htk.out,Z7,<- hall.out,<- hrow];rfl
   have f0:(L++Z).set L.length (.spare (i+1) 1)=L++Z.set 0 (.spare (i+1) 1):=by rw [s4.out _ _ _ (ZA _),aaY]
   have f1:(L++Z.set 0 (.spare (i+1) 1))[L.length]?=some (.spare (i+1) 1):=by
    rw [<- f0,ZX,if_pos rfl,if_pos (Zz.1 ho2).1]
   replace hrow:=hid hrow;replace htk3:=hid htk3;replace f1:=hid f1;rcases hv.out with ⟨rfl,hk0⟩|⟨j,⟨hk1,hBj⟩,rfl,hj⟩
   ·have hr0:r=[]:=aaj.1 hk0;replace hk0:=hid hk0;refine wk ?_;refine LG (xs:=[]) (by simp) (by simp [Lib.join]) ?_;refine sk ?_;refine wk ?_;rw [show ce all++[AV.str (Lib.join [] [43])]=ce (all++[Lib.join [] [43]]) by simp];exact aj _ _ _ (by omega) (CutL (b:=by have:=hX.out;have h0:=(Zz.1 ho2).1;simp at h0 ⊢;omega)) ⟨i+1,all++[Lib.join [] [43]],_,rfl,hlt,hid (by rw [htk3.out,hr0];rfl),f1.out,rfl,rfl⟩
   ·rw [ZW] at hj;by_cases hr0:r=[]
    ·rw [hr0] at hk1;cases hk1
    ·refine wk ?_;refine Pu (xs:=r.map (avT false)) (by simp) (by simpa using hr0) (by simp;omega) hjr (by simpa using hj) ?_;refine sk ?_;refine wk ?_;rw [show ce all++[AV.str (Lib.join (r.map (avT false)) [43])]=ce (all++[Lib.join (r.map (avT false)) [43]]) by simp];exact aj _ _ _ (by omega) (CutL (b:=by have h0:=(Zz.1 ho2).1;simp at h0 ⊢;omega)) ⟨i+1,all++[Lib.join (r.map (avT false)) [43]],_,rfl,hlt,hid htk3.out.symm,f1.out,rfl,rfl⟩
 ·have hke:i=d.length:=by omega
  subst hke;have g1:¬ (d.length:Int)<(d.length:Int):=by omega
  have e:=hall.out;rw [ZW] at e;have h':=h.out;simp only [dJ] at h' hj2;replace h':=hid h';clear hall;subst e;refine wk ?_;refine RD (by simp) (by simp;omega) hj2 ?_;refine sk ?_;refine wk ?_;exact ae rfl h'.out
theorem Qq (s:List UInt8):(bF s).length<=s.length:=by
 have:=l6 s s.length
 rwa [ZW] at this
theorem qE (s:List UInt8):(bD s).length<=s.length:=by
 have h1:=Qq (ab s);have h2:(ab s).length=s.length:=by simp [ab]
 unfold bD cZ;split
 ·simp only [List.length_dropLast];omega
 ·omega
theorem Ul {xs:List (List UInt8)} {i n:Nat} {cp:Option Nat} (he:n=xs.length) (hx:xs≠[]) (hn:xs.length<=1100000) (hL:L[i]?=some (.cells (ce xs))) (h:K (.tup []) (L.set i (.cells (ce (du xs))))) :
  Zx 214 [.lsl i 0 n cp 1] L K:=by
 subst he;exact WD (rest:=[]) hx hn (by simpa using hL) (by simpa using h)
theorem Nc (xs:List (List UInt8)):(du xs).length=xs.length:=by simp [du]
theorem WA {d:List Rdn} {cap:Option Nat} (hn:d.length<=1000) (hr:∀ r∈d,r.length<=1000/\∀ a∈r,a.1.length<=10000/\a.2.length<=10000) (hj1:∀ r∈d,(c8 true r).length<=140737488355328) (hj2:(dJ true d).length<=140737488355328) (h:K (.str (dJ true d)) L) :
  Zx 178 [.sl (d.map cf) d.length cap,.bool true] L K:=by
 replace h:=hid h;have hat:=hid (fun k=>@Gp d k);replace hr:=hid hr;replace hj1:=hid hj1;have s4:∀ (W:List Blk) (j:Nat) (A:Blk),L.length<=j->(L++W).set j A=L++W.set (j - L.length) A:=fun W j A hj=>aaz _ _ hj
 replace s4:=hid s4;refine Zw IN ?_;refine cG (l:=[]) (n:=0) 5 1 rfl (aae 1).symm ?_;refine ak (fun n T' L'=>∃ (i:Nat) (all:List (List UInt8)) (Z:List Blk),n=d.length - i/\i<=d.length/\Hid (all=(d.take i).map (c8 true))/\L'[L.length]?=some (.spare i 1)/\T'=[(13,.int .i64 (i:Int)),(12,.int .i64 d.length),(11,.sl (d.map cf) d.length cap),(5,.gsl (ce all) i L.length 1),(1,.bool true)]/\L'=L++Z) (CutS (b:=by simp)) ⟨0,[],[.spare 0 1],rfl,ZI _,hid rfl,by simp,rfl,rfl⟩ ?_;rintro _ _ _ ⟨i,all,X,rfl,hi,hall,ho,rfl,rfl⟩;by_cases hlt:i<d.length
 ·have g1:(i:Int)<(d.length:Int):=by omega
  have g2:=Zv i (by omega);have e2:=hat.out i hlt;have hrm:d.getD i []∈d:=by rw [Z2,ZR hlt];exact aaI _
  have hrl:=hr.out _ hrm;have hjr:=hj1.out _ hrm;obtain ⟨r,hri⟩:=Zt (d.getD i []);have htk:d.take (i+1)=d.take i++[r]:=by rw [ZY hlt,<- hri];simp [hlt]
  rw [hri] at e2 hrl hjr;clear hri hrm;obtain ⟨hrl1,hrl2⟩:=hrl;replace hrl2:=hid hrl2;replace htk:=hid htk;have hX:=(Zz.1 ho).1;rw [ZQ] at hX;replace hX:=hid hX;refine wk ?_;refine ak (fun n T' L'=>∃ (k:Nat) (v:AV) (Z:List Blk),n=r.length - k/\k<=r.length/\X.length<=Z.length/\L'[L.length]?=some (.spare i 1)/\Hid ((v=.sl [] 0 (some 0)/\k=0)\/∃ j,(0<k/\L.length<j)/\v=.lsl j 0 k none 1/\L'[j]?=some (.cells (ce ((r.take k).map (avT true)))))/\T'=[(19,.int .i64 (k:Int)),(18,.int .i64 r.length),(17,cf r),(8,v),(13,.int .i64 (i:Int)),(12,.int .i64 d.length),(11,.sl (d.map cf) d.length cap),(5,.gsl (ce all) i L.length 1),(1,.bool true)]/\L'=L++Z) (CutS (b:=by simp)) ⟨0,_,X,rfl,ZI _,ZA _,ho,hid (.inl ⟨rfl,rfl⟩),rfl,rfl⟩ ?_;rintro _ _ _ ⟨k,v,Z,rfl,hk,hXZ,ho2,hv,rfl,rfl⟩;replace hXZ:=hid hXZ;by_cases hkl:k<r.length
  ·have g3:(k:Int)<(r.length:Int):=by omega
   have g4:=Zv k (by omega);have e3:=eM hkl;have e4:k * 2+2<=(a7 r).length:=by rw [dt];omega
   obtain ⟨⟨ty,va⟩,ha⟩:∃ a,r.getD k ([],[])=a:=⟨_,rfl⟩;have ham:(ty,va)∈r:=by rw [<- ha];simp [hkl]
   have htk2:(r.take (k+1)).map (avT true)=(r.take k).map (avT true)++[ab ty++61::dS (bD va)]:=by
    rw [ZY hkl];have:r[k]=(ty,va):=by rw [<- ha];simp [hkl]
    rw [this];simp [avT]
   rw [ha] at e3;simp only [mL] at e3;have hva:=hrl2.out _ ham;simp only at hva;have hpl:=qE va;have hva':(bD va).length<=100000:=by omega
   have hva2:(va.length:Int)<=100000:=by omega
   have hty2:(ty.length:Int)<=100000:=by omega
   have hwl:=G0 (bD va).length (bD va) 0;have hfl:(ab ty).length=ty.length:=by simp [ab]
   have b1:((ab ty).length:Int)+1<=9223372036854775807:=by omega
   have b2:((ab ty).length:Int)+1+((dS (bD va)).length:Int)<=9223372036854775807:=by unfold dS;omega
   clear hwl ha ham hva hfl hpl;replace htk2:=hid htk2;have q1:(k+1) * 16<=140737488355328:=by omega
   have q2:k+1<=140737488355328:=by omega
   have q3:k<=140737488355327:=by omega
   rcases hv.out with ⟨rfl,hk0⟩|⟨j,⟨hk1,hBj⟩,rfl,hj⟩
   ·replace hk0:=hid hk0;have kk1:=@hid _ (fun L K=>CI hty2 (L:=L) (K:=K));have kk2:=@hid _ (fun L K=>rj hva2 (L:=L) (K:=K));have kk3:=@hid _ (fun L K=>er hva' (L:=L) (K:=K));refine wk ?_;refine aj _ _ _ (by omega) (CutL (b:=?_)) ⟨k+1,.lsl (L.length+(Z.length+1)) 0 1 none 1,_,rfl,hkl,?_,?_,hid (.inr ⟨L.length+(Z.length+1),⟨by omega,by omega⟩,by rw [hk0.out],?_⟩),rfl,rfl⟩
    ·have:=hXZ.out;simp;omega
    ·have:=hXZ.out;simp;omega
    ·rw [<- ZO,ZM (Zz.1 ho2).1];exact ho2
    ·rw [lX,lX,htk2.out,hk0.out];rfl
   ·obtain ⟨cur,hcur⟩:=Zt ((r.take k).map (avT true));have hcl:cur.length=k:=by rw [<- hcur];simp;omega
    rw [hcur] at hj;have f1:(L++(Z++[Blk.cells [.str (ab ty),.str (bD va)]]))[j]?=some (.cells (ce cur)):=by
     rw [<- ZO,ZM (Zz.1 hj).1];exact hj
    have f2:(L++(Z++[Blk.cells [.str (ab ty),.str (bD va)]])).set j .dead=L++(Z++[Blk.cells [.str (ab ty),.str (bD va)]]).set (j - L.length) .dead:=s4.out _ _ _ (by omega);have f3:k<=(ce cur).length:=by simp [hcl]
    have f4:(ce cur).take k=ce cur:=aaR (by simp [hcl]);replace hcur:=hid hcur;replace hcl:=hid hcl;have hjL:=hid (show j≠L.length by omega);have f2':=hid f2
    repeat' first
     | refine bb ?_
     | (first|refine aU (by kernel_rfl) ?_|refine aA (by kernel_rfl) ?_|refine aD ?_|refine bS ?_|refine bh (fun _=>?_)|refine ay ?_|refine aW ?_|refine CI hty2 ?_|refine rj hva2 ?_|refine er hva' ?_|refine bg (CI hty2 ⟨rfl,rfl⟩) (CI hty2 ⟨rfl,rfl⟩) ?_|refine bg (rj hva2 ⟨rfl,rfl⟩) (rj hva2 ⟨rfl,rfl⟩) ?_|refine bg (er hva' ⟨rfl,rfl⟩) (er hva' ⟨rfl,rfl⟩) ?_|refine aL (CI hty2 ⟨rfl,rfl⟩) ?_|refine aL (rj hva2 ⟨rfl,rfl⟩) ?_|refine aL (er hva' ⟨rfl,rfl⟩) ?_)
       refine sm ?_
     | (first|refine aP (by kernel_rfl) ?_|refine aQ ?_|refine aC ?_|refine aV ?_|refine bq (ax ?_))
       refine sl ?_
     | exact bj
     | first|apply bm|apply aR|apply bo|apply aS|apply bp|apply aT
     | refine aG ?_
     | refine aB ?_
     | first|refine aE rfl ?_|refine aF rfl ?_|refine an rfl ?_ ?_|refine aI rfl (fun _=>?_) (fun _=>?_)|refine aH rfl (fun _=>?_) (fun _=>?_)
     | ((first|refine am (fun _=>?_) (fun _=>?_)|refine aw (fun _=>?_) (fun _=>?_))<;>try refine sm ?_)
     | refine And.intro trivial ?_
     | refine And.intro (by omega) ?_
     | refine aM rfl (fun _=>?_) (fun _=>?_)
     | refine And.intro ?_ ?_
    ·rw [hcl.out];exact ZA _
    ·have hA:((Z++[Blk.cells [.str (ab ty),.str (bD va)]]).set (j - L.length) .dead).length=Z.length+1:=by simp
     refine aj _ _ _ (by omega) (CutL (b:=?_)) ⟨k+1,.lsl (L.length+(Z.length+1)) 0 (k+1) none 1,_,rfl,hkl,?_,?_,hid (.inr ⟨L.length+(Z.length+1),⟨by omega,by omega⟩,rfl,?_⟩),rfl,rfl⟩
     ·have:=hXZ.out;simp;omega
     ·have:=hXZ.out;simp;omega
     ·rw [<- ZO,<- f2'.out,ZM (by simp),ZU hjL.out,<- ZO,ZM (Zz.1 ho2).1];exact ho2
     ·rw [lX,<- hA,lY,htk2.out,hcur.out];simp
  ·have hke:k=r.length:=by omega
   subst hke;have g3:¬ (r.length:Int)<(r.length:Int):=by omega
   have q4:(i+1) * 16<=140737488355328:=by omega
   have q5:i+1<=140737488355328:=by omega
   have hrow:c8 true r=Lib.join (du (r.map (avT true))) [43]:=by simp [c8]
   rw [hrow] at hjr;have htk3:(d.take (i+1)).map (c8 true)=all++[Lib.join (du (r.map (avT true))) [43]]:=by
    rw [htk.out,Z7,<- hall.out,<- hrow];rfl
   replace hrow:=hid hrow;replace htk3:=hid htk3;rcases hv.out with ⟨rfl,hk0⟩|⟨j,⟨hk1,hBj⟩,rfl,hj⟩
   ·have hr0:r=[]:=aaj.1 hk0;have f0:(L++Z).set L.length (.spare (i+1) 1)=L++Z.set 0 (.spare (i+1) 1):=by rw [s4.out _ _ _ (ZA _),aaY]
    have f1:(L++Z.set 0 (.spare (i+1) 1))[L.length]?=some (.spare (i+1) 1):=by
     rw [<- f0,ZX,if_pos rfl,if_pos (Zz.1 ho2).1]
    replace f1:=hid f1;replace hk0:=hid hk0;refine wk ?_;refine Um ?_;refine sk ?_;refine wk ?_;refine LG (xs:=[]) (by simp) (by simp [Lib.join]) ?_;refine sk ?_;refine wk ?_;rw [show ce all++[AV.str (Lib.join [] [43])]=ce (all++[Lib.join [] [43]]) by simp];exact aj _ _ _ (by omega) (CutL (b:=by have:=hX.out;have h0:=(Zz.1 ho2).1;simp at h0 ⊢;omega)) ⟨i+1,all++[Lib.join [] [43]],_,rfl,hlt,hid (by rw [htk3.out,hr0];simp [du]),f1.out,rfl,rfl⟩
   ·rw [ZW] at hj;have hr0:r≠[]:=fun e=>by rw [e] at hk1;cases hk1
    obtain ⟨xs,hxs⟩:=Zt (r.map (avT true));have hxl:r.length=xs.length:=by rw [<- hxs];simp
    have hxne:xs≠[]:=fun e=>hr0 (by have:=hxl;rw [e] at this;exact aaj.1 this)
    rw [hxs] at hj hjr htk3;have hsl:=Nc xs;have hjl:L.length+(j - L.length)=j:=by omega
    have f2:(L++Z).set j (.cells (ce (du xs)))=L++Z.set (j - L.length) (.cells (ce (du xs))):=s4.out _ _ _ (by omega);have f3:(L++Z.set (j - L.length) (.cells (ce (du xs))))[j]?=some (.cells (ce (du xs))):=by
     rw [<- f2,ZX,if_pos rfl,if_pos (Zz.1 hj).1]
    have ho3:(L++Z.set (j - L.length) (.cells (ce (du xs))))[L.length]?=some (.spare i 1):=by
     rw [<- f2,ZU (by omega)];exact ho2
    clear ho2;replace hj:=hid hj;generalize hZ1:Z.set (j - L.length) (.cells (ce (du xs)))=Z1 at f2 f3 ho3;have f0:(L++Z1).set L.length (.spare (i+1) 1)=L++Z1.set 0 (.spare (i+1) 1):=by rw [s4.out _ _ _ (ZA _),aaY]
    have f1:(L++Z1.set 0 (.spare (i+1) 1))[L.length]?=some (.spare (i+1) 1):=by
     rw [<- f0,ZX,if_pos rfl,if_pos (Zz.1 ho3).1]
    replace f1:=hid f1;replace f2:=hid f2;replace f3:=hid f3;replace hxs:=hid hxs;replace hxl:=hid hxl;replace hsl:=hid hsl;clear hZ1;replace hxne:=hid hxne;refine wk ?_;refine Ul hxl.out hxne.out (by have:=hxl.out;omega) hj.out ?_;rw [f2.out];refine sk ?_;refine wk ?_;refine Pu (xs:=du xs) (by rw [hsl.out];exact hxl.out) (fun e=>hxne.out (by have:=hsl.out;rw [e] at this;exact aaj.1 this.symm)) (by have:=hxl.out;rw [hsl.out];omega) hjr f3.out ?_;refine sk ?_;refine wk ?_;rw [show ce all++[AV.str (Lib.join (du xs) [43])]=ce (all++[Lib.join (du xs) [43]]) by simp];exact aj _ _ _ (by omega) (CutL (b:=by have h0:=(Zz.1 ho3).1;simp at h0 ⊢;omega)) ⟨i+1,all++[Lib.join (du xs) [43]],_,rfl,hlt,hid htk3.out.symm,f1.out,rfl,rfl⟩
 ·have hke:i=d.length:=by omega
  subst hke;have g1:¬ (d.length:Int)<(d.length:Int):=by omega
  have e:=hall.out;rw [ZW] at e;have h':=h.out;simp only [dJ] at h' hj2;replace h':=hid h';clear hall;subst e;refine wk ?_;refine RD (by simp) (by simp;omega) hj2 ?_;refine sk ?_;refine wk ?_;exact ae rfl h'.out
def z8 (r:Rdn):Bool:=r.any fun a=>decide (4096<a.2.length)
def Iw (d:List Rdn):Bool:=d.any z8
theorem NT:∀ (t done:Rdn),dw done t=0->done.length<=8->(done++t).length<=8/\∀ a∈t,a.1.length<=32
 | [],done,_,h=>by simp;exact h
 | a::t,done,h,hd=>by
   simp only [dw] at h;split at h
   ·cases h
   ·split at h
    ·cases h
    ·split at h
     ·cases h
     ·rename_i h1 h2 h3
      have:=NT t (done++[a]) h (by simp;omega);refine ⟨by simpa using this.1,fun b hb=>?_⟩;rcases ZF.1 hb with rfl|hb
      ·exact n9 (by simpa using h2)
      ·exact this.2 b hb
theorem KZ:∀ (d:List Rdn) (i:Nat),gx i d=0->i<=32->i+d.length<=32/\∀ r∈d,r.length<=8/\∀ a∈r,a.1.length<=32
 | [],i,_,h=>by simp;exact h
 | r::d,i,h,hi=>by
   simp only [gx] at h;split at h
   ·cases h
   ·split at h
    ·cases h
    ·split at h
     ·rename_i h3;exact absurd h h3
     ·rename_i h1 h2 h3
      have h3':dw [] r=0:=by simpa using h3
      have a1:=NT r [] h3' (by simp);have a2:=KZ d (i+1) h (by omega);refine ⟨by simp;omega,fun q hq=>?_⟩;rcases ZF.1 hq with rfl|hq
      ·exact ⟨by simpa using a1.1,a1.2⟩
      ·exact a2.2 q hq
theorem Dh (s:List UInt8):(dS s).length<=3 * s.length:=G0 _ _ _
theorem Xn {key:Bool} {a:Ava} (h1:a.1.length<=32) (h2:a.2.length<=4096):(avT key a).length<=20000:=by
 have e1:=Dh a.2;have e2:=Dh (bD a.2);have e3:=qE a.2;have e4:(ab a.1).length=a.1.length:=by simp [ab]
 unfold avT;split
 ·simp;omega
 ·simp;omega
theorem LI {B:Nat} {sep:List UInt8}:∀ xs:List (List UInt8),(∀ x∈xs,x.length<=B)->(Lib.join xs sep).length<=xs.length * (B+sep.length)
 | [],_=>by simp [Lib.join]
 | [x],h=>by
   have:=h x (by simp);simp [Lib.join,List.intercalate];omega
 | x::y::l,h=>by
   have h1:=LI (sep:=sep) (y::l) fun z hz=>h z (aa7 _ hz)
   have h2:=h x (by simp);have e:Lib.join (x::y::l) sep=x++(sep++Lib.join (y::l) sep):=by simp [Lib.join,List.intercalate]
   rw [e];simp only [ZQ,ZN,abR] at h1 ⊢;omega
theorem O7 {key:Bool} {r:Rdn} (h0:r.length<=8) (h1:∀ a∈r,a.1.length<=32) (h2:∀ a∈r,a.2.length<=4096):(c8 key r).length<=200000:=by
 have key1:∀ xs:List (List UInt8),xs.length<=8->(∀ x∈xs,x.length<=20000)->(Lib.join xs [43]).length<=200000:=fun xs a b=>by
  have c:=LI (sep:=[43]) xs b;have d:xs.length * (20000+[(43:UInt8)].length)<=8 * (20000+1):=aaH _ a;omega
 have hm:∀ x∈r.map (avT key),x.length<=20000:=fun x hx=>by
  obtain ⟨a,ha,rfl⟩:=ZC.1 hx;exact Xn (h1 a ha) (h2 a ha)
 unfold c8;split
 ·refine key1 _ (by rw [Nc];simpa using h0) fun x hx=>hm x ?_
  exact (abJ (r.map (avT key)) _).mem_iff.1 hx
 ·exact key1 _ (by simpa using h0) hm
theorem O1 {key:Bool} {d:List Rdn} (h0:d.length<=32) (h1:∀ r∈d,(c8 key r).length<=200000):(dJ key d).length<=10000000:=by
 have c:=LI (sep:=[44]) (B:=200000) (d.map (c8 key)) fun x hx=>by
  obtain ⟨r,hr,rfl⟩:=ZC.1 hx;exact h1 r hr
 have e:(d.map (c8 key)).length * (200000+[(44:UInt8)].length)<=32 * (200000+1):=aaH _ (by simpa using h0);unfold dJ;omega
def prS (d:List Rdn):List UInt8×Int:=if gx 0 d≠0 then ([],gx 0 d) else if Iw d=true then ([],5) else if 4096<(dJ false d).length then ([],5) else (dJ false d,0)
def oa (p:List UInt8×Int):AV:=.tup [.str p.1,.int .i64 p.2]
def Ly (d:List Rdn):List UInt8×Int:=if (prS d).2≠0 then ([],(prS d).2) else (dJ true d,0)
def CD (s:List UInt8):List UInt8×Int:=if (qF s).2≠0 then ([],(qF s).2) else Ly (qF s).1
theorem WW {d:List Rdn} {cap:Option Nat} (hn:d.length<=1100000) (hr:∀ r∈d,r.length<=1100000) (h:K (oa (prS d)) L) :
  Zx 177 [.sl (d.map cf) d.length cap] L K:=by
 have hat:=hid (fun k=>@Gp d k);unfold prS oa at h;refine Zw M0 ?_;refine Xh hn hr ?_;by_cases hc:gx 0 d=0;rotate_left
 ·rw [if_pos hc] at h;replace h:=hid h;refine sk ?_;refine wk ?_;exact aa h.out
 rw [if_neg (by simpa using hc)] at h;obtain ⟨hd32,hd8⟩:=KZ d 0 hc (by omega);rw [hc];replace hd8:=hid hd8;replace h:=hid h;clear hr hn hc;refine sk ?_;refine wk ?_;refine ak (fun n T' L'=>∃ (i:Nat) (c:Int) (Z:List Blk),n=d.length - i/\i<=d.length/\Hid (Iw (d.take i)=false/\0<=c/\c<=8 * i)/\T'=[(18,.int .i64 (i:Int)),(17,.int .i64 d.length),(16,.sl (d.map cf) d.length cap),(5,.int .i64 c),(0,.sl (d.map cf) d.length cap)]/\L'=L++Z) (CutS (b:=by simp)) ⟨0,0,[],rfl,ZI _,hid ⟨rfl,by omega,by omega⟩,rfl,by simp⟩ ?_;rintro _ _ _ ⟨i,c,X,rfl,hi,hI,rfl,rfl⟩;by_cases hlt:i<d.length
 ·have g1:(i:Int)<(d.length:Int):=by omega
  have g2:=Zv i (by omega);have e2:=hat.out i hlt;have hrm:d.getD i []∈d:=by rw [Z2,ZR hlt];exact aaI _
  obtain ⟨r,hri⟩:=Zt (d.getD i []);have htk:d.take (i+1)=d.take i++[r]:=by rw [ZY hlt,<- hri];simp [hlt]
  rw [hri] at e2 hrm;have hr8:=(hd8.out r hrm).1;have bad:z8 r=true->K (.tup [.str [],.int .i64 5]) L:=fun e=>by
   have h':=h.out;rw [if_pos (show Iw d=true from abZ.2 ⟨r,hrm,e⟩)] at h';exact h'
  replace bad:=hid bad;replace htk:=hid htk;clear hri hrm;refine wk ?_;refine ak (fun n T' L'=>∃ (k:Nat) (c':Int) (Z:List Blk),n=r.length - k/\k<=r.length/\X.length<=Z.length/\Hid (z8 (r.take k)=false/\c'=c+k)/\T'=[(24,.int .i64 (k:Int)),(23,.int .i64 r.length),(22,cf r),(18,.int .i64 (i:Int)),(17,.int .i64 d.length),(16,.sl (d.map cf) d.length cap),(5,.int .i64 c'),(0,.sl (d.map cf) d.length cap)]/\L'=L++Z) (CutS (b:=by simp)) ⟨0,c,X,rfl,ZI _,ZA _,hid ⟨rfl,by omega⟩,rfl,rfl⟩ ?_;rintro _ _ _ ⟨k,c',Z,rfl,hk,hXZ,hJ,rfl,rfl⟩;replace hXZ:=hid hXZ;by_cases hkl:k<r.length
  ·have g3:(k:Int)<(r.length:Int):=by omega
   have g4:=Zv k (by omega);have g5:IntKind.i64.wrap (c'+1)=c'+1:=by
    obtain ⟨_,z1,z2⟩:=hI.out;have:=hJ.out.2;exact ac (by omega) (by omega)
   have e3:=eM hkl;have e4:k * 2+2<=(a7 r).length:=by rw [dt];omega
   obtain ⟨⟨ty,va⟩,ha⟩:∃ a,r.getD k ([],[])=a:=⟨_,rfl⟩;have ham:(ty,va)∈r:=by rw [<- ha];simp [hkl]
   have htk2:r.take (k+1)=r.take k++[(ty,va)]:=by rw [ZY hkl,<- ha];simp [hkl]
   rw [ha] at e3;simp only [mL] at e3;have Dc:4096<va.length->z8 r=true:=fun e=>abZ.2 ⟨_,ham,by simpa using e⟩
   replace Dc:=hid Dc;replace htk2:=hid htk2;clear ha ham;by_cases hlv:(4096:Int)<(va.length:Int)
   ·have h':=hid (bad.out (Dc.out (by omega)));refine wk ?_;exact ae rfl h'.out
   ·refine wk ?_;refine aj _ _ _ (by omega) (CutL (b:=?_)) ⟨k+1,c'+1,_,rfl,hkl,?_,hid ⟨?_,by have:=hJ.out.2;omega⟩,rfl,rfl⟩
    ·have:=hXZ.out;simp;omega
    ·have:=hXZ.out;simp;omega
    ·rw [htk2.out,z8,ach,show (r.take k).any _=z8 (r.take k) from rfl,hJ.out.1];simp;omega
  ·have hke:k=r.length:=by omega
   subst hke;have g3:¬ (r.length:Int)<(r.length:Int):=by omega
   have hlr:=hJ.out.1;rw [ZW] at hlr;replace hlr:=hid hlr;refine wk ?_;refine aj _ _ _ (by omega) (CutL (b:=by simp)) ⟨i+1,c',_,rfl,hlt,hid ⟨?_,?_,?_⟩,rfl,rfl⟩
   ·rw [htk.out,Iw,ach,show (d.take i).any _=Iw (d.take i) from rfl,hI.out.1];simp [hlr.out]
   ·obtain ⟨_,z1,z2⟩:=hI.out;have:=hJ.out.2;omega
   ·obtain ⟨_,z1,z2⟩:=hI.out;have:=hJ.out.2;omega
 ·have hke:i=d.length:=by omega
  subst hke;have g1:¬ (d.length:Int)<(d.length:Int):=by omega
  have hld:=hI.out.1;rw [ZW] at hld;have h':=h.out;rw [if_neg (by rw [hld];simp)] at h';have hv:∀ r∈d,∀ a∈r,a.2.length<=4096:=fun r hr a ha=>by
   have h1:=abc.1 hld r hr;have h1':z8 r=false:=by simpa using h1
   unfold z8 at h1';have h2:=abc.1 h1' a ha;simpa using h2
  have hrl:∀ r∈d,(c8 false r).length<=200000:=fun r hr=>O7 (hd8.out r hr).1 (hd8.out r hr).2 (hv r hr)
  have htl:=O1 (by omega) hrl;replace h':=hid h';clear hld;replace hv:=hid hv;replace hrl:=hid hrl;refine wk ?_;refine WB (by omega) (fun r hr=>⟨by have:=(hd8.out r hr).1;omega,fun a ha=>⟨by have:=(hd8.out r hr).2 a ha;omega,by have:=hv.out r hr a ha;omega⟩⟩) (fun r hr=>by have:=hrl.out r hr;omega) (by omega) ?_;by_cases hlg:4096<(dJ false d).length
  ·have k1:(4096:Int)<((dJ false d).length:Int):=by omega
   have h2:=h'.out;rw [if_pos hlg] at h2;replace h2:=hid h2;clear hlg;refine sk ?_;refine wk ?_;exact ae rfl h2.out
  ·have k1:¬ (4096:Int)<((dJ false d).length:Int):=by omega
   have h2:=h'.out;rw [if_neg hlg] at h2;replace h2:=hid h2;clear hlg;refine sk ?_;refine wk ?_;exact ae rfl h2.out
theorem UK {d:List Rdn} (h:(prS d).2=0):d.length<=32/\∀ r∈d,r.length<=8/\∀ a∈r,a.1.length<=32/\a.2.length<=4096:=by
 unfold prS at h;split at h
 ·rename_i hc;exact absurd h hc
 ·rename_i hc
  split at h
  ·cases h
  ·rename_i hl
   have h0:gx 0 d=0:=by simpa using hc
   obtain ⟨h1,h2⟩:=KZ d 0 h0 (by omega);have hld:Iw d=false:=by simpa using hl
   refine ⟨by omega,fun r hr=>⟨(h2 r hr).1,fun a ha=>⟨(h2 r hr).2 a ha,?_⟩⟩⟩;have k1:=abc.1 hld r hr;have k1':z8 r=false:=by simpa using k1
   unfold z8 at k1';have k2:=abc.1 k1' a ha;simpa using k2
theorem Yb {d:List Rdn} {cap:Option Nat} (hn:d.length<=1100000) (hr:∀ r∈d,r.length<=1100000) (h:K (oa (Ly d)) L) :
  Zx 140 [.sl (d.map cf) d.length cap] L K:=by
 unfold Ly oa at h;refine Zw OO ?_;refine WW hn hr ?_;unfold oa;obtain ⟨⟨ps,pe⟩,hp⟩:∃ p,prS d=p:=⟨_,rfl⟩;rw [hp] at h ⊢;simp only at h ⊢;by_cases h0:pe=0
 ·subst h0;obtain ⟨q1,q2⟩:=UK (by rw [hp]);rw [if_neg (by simp)] at h;have hrl:∀ r∈d,(c8 true r).length<=200000:=fun r hr=>O7 (q2 r hr).1 (fun a ha=>((q2 r hr).2 a ha).1) (fun a ha=>((q2 r hr).2 a ha).2)
  have htl:=O1 (by omega) hrl;replace h:=hid h;replace q2:=hid q2;replace hrl:=hid hrl;clear hp hr;refine sk ?_;refine wk ?_;refine WA (by omega) (fun r hr=>⟨by have:=(q2.out r hr).1;omega,fun a ha=>⟨by have:=((q2.out r hr).2 a ha).1;omega,by have:=((q2.out r hr).2 a ha).2;omega⟩⟩) (fun r hr=>by have:=hrl.out r hr;omega) (by omega) ?_;refine sk ?_;refine wk ?_;exact aa h.out
 ·rw [if_pos h0] at h;replace h:=hid h;clear hp hr;refine sk ?_;refine wk ?_;exact aa h.out
theorem Of:∀ (f:Nat) (out:List Rdn) (now:Rdn) (s:List UInt8),out.length<=32->now.length<=8->(∀ r∈out,r.length<=8)->(mK f out now s).1.length<=33/\∀ r∈(mK f out now s).1,r.length<=8
 | 0,_,_,_,_,_,_=>by simp [mK]
 | f+1,out,now,s,h1,h2,h3=>by
   rw [mK];split
   ·simp
   rename_i hlim
   have hrow:∀ t v:List UInt8,(now++[(t,v)]).length<=8:=fun t v=>by simp;omega
   have hout:∀ t v:List UInt8,∀ r∈out++[now++[(t,v)]],r.length<=8:=fun t v r hr=>by
    rcases ZD.1 hr with h|h
    ·exact h3 r h
    ·rw [ZS.1 h];exact hrow t v
   split
   ·simp
   split
   ·simp
   split
   ·simp
   split
   ·simp
   split
   ·simp
   split
   ·exact ⟨by simp;omega,hout _ _⟩
   split
   ·exact Of f _ _ _ (by simp;omega) (by simp) (hout _ _)
   ·exact Of f _ _ _ h1 (hrow _ _) h3
theorem Rz (s:List UInt8):(qF s).1.length<=33/\∀ r∈(qF s).1,r.length<=8:=by
 unfold qF;split
 ·simp
 split
 ·simp
 ·exact Of _ _ _ _ (by simp) (by simp) (by simp)
theorem XF {s:List UInt8} (h:K (oa (CD s)) L):Zx 100 [.str s] L K:=by
 unfold CD at h;refine Zw PX ?_;refine WY ?_;obtain ⟨q1,q2⟩:=Rz s;obtain ⟨⟨pd,pe⟩,hp⟩:∃ p,qF s=p:=⟨_,rfl⟩;rw [hp] at h q1 q2 ⊢;simp only [Qw] at h q1 q2 ⊢;clear hp;by_cases h0:pe=0
 ·subst h0;rw [if_neg (by simp)] at h;replace h:=hid h;replace q2:=hid q2;refine sk ?_;refine wk ?_;refine Yb (by omega) (fun r hr=>by have:=q2.out r hr;omega) ?_;have h':=h.out;unfold oa at h' ⊢;replace h':=hid h';refine sk ?_;refine wk ?_;exact aa h'.out
 ·rw [if_pos h0] at h;unfold oa at h;replace h:=hid h;clear q1 q2;refine sk ?_;refine wk ?_;exact aa h.out
end Go.Proofs.YtcmfcpjnhephaaaGreatDoor.Av
