/- Joined texts of the walk, made small by a program. -/
import Derived.Test.YtdhjplmjpjfjnaaGreatHShelfP
import Derived.Test.YtdhjplmjpjfjnaaGreatHP5
import Derived.Test.YtdhjplmjpjfjnaaGreatHP4
import Derived.Shelf.Sort.Plain
import Derived.Test.YtdhjplmjpjfjnaaGreatRows
import Derived.KernelRfl
import Derived.Test.YtdhjplmjpjfjnaaGreatHD1
import Derived.Test.YtdhjplmjpjfjnaaGreatHO1
set_option linter.unusedSimpArgs false
set_option linter.unusedVariables false
namespace Go.Proofs.YtdhjplmjpjfjnaaGreat.Av
open Go Go.Sort
variable {L:List Blk} {K:AV→List Blk→Prop}
abbrev aB (xs:List (List UInt8)):List AV:=xs.map AV.str
theorem zi {xs:List (List UInt8)} {sep:List UInt8} {cap:Option Nat} (hn:xs.length≤1100000) (hl:(Lib.join xs sep).length≤140737488355328) (h:K (.str (Lib.join xs sep)) L) :
   ab Tryz.prog 83 [.sl (aB xs) xs.length cap,.str sep] L K :=
 mM Tryz.func83 rfl (by kernel_rfl) (fun w0 S0 E w vs hR hv=>by
   simp only [VRL,VR] at hv
   obtain ⟨_,_,rfl,⟨p,c,rfl,hle,_,hp⟩,_,_,rfl,rfl,rfl⟩:=hv
   by_cases hx:xs=[]
   · subst hx
     exact (Tryz.strings_Join_none p c ⟨⟨sep⟩⟩ w).mono fun e w' ⟨he,hw⟩=>⟨_,he,by simp [VR,Lib.join],by subst hw;exact EG.refl _⟩
   · rcases hp with ⟨e0,_⟩|⟨b,o,rfl,hcells⟩
     · exact absurd (List.length_eq_zero_iff.1 e0) hx
     · have hmem:∀ (j:Nat) x,(xs.map fun s=>(⟨⟨s⟩⟩:ByteArray))[j]?=some x→w.cell? ⟨b,o+j,none⟩=some (.string x):=fun j x hj=>by
         rw [List.getElem?_map] at hj
         rcases hxs:xs[j]? with _|s
         · rw [hxs] at hj;cases hj
         · rw [hxs] at hj
           simp only [Option.map_some,Option.some.injEq] at hj
           subst hj
           obtain ⟨v,g1,g2⟩:=hcells.get (i:=j) (a:=.str s) (by rw [List.getElem?_map,hxs];rfl)
           simp only [VR] at g2
           subst g2
           exact hR.mem _ _ _ g1
       have hb:b<w.heap.size:=by
         have hx0:0<xs.length:=List.length_pos_iff.2 hx
         have h0:=hmem 0 ⟨⟨xs[0]⟩⟩ (by rw [List.getElem?_map,List.getElem?_eq_getElem hx0];rfl)
         rcases Nat.lt_or_ge b w.heap.size with g|g
         · exact g
         · simp [World.cell?,Array.getElem?_eq_none g] at h0
       have hmm:(xs.map fun s=>(⟨⟨s⟩⟩:ByteArray)).map (·.data.toList)=xs:=by rw [List.map_map];exact List.map_id'' (fun _=>rfl) xs
       have key:=Tryz.strings_Join b o c (xs.map fun s=>(⟨⟨s⟩⟩:ByteArray)) ⟨⟨sep⟩⟩ w hmem hb (by rw [List.length_map];omega) (by rw [List.length_map];exact hle) (by rw [hmm];exact hl)
       rw [hmm] at key
       simp only [List.length_map] at key
       exact key.mono fun e w' ⟨he,hbel⟩=>⟨_,he,by simp [VR],⟨fun b hb=>hbel.block b hb,hbel.size,hbel.os,hbel.tape,hbel.output⟩⟩) h
theorem Rel.putStrs {w0:World} {S0:SB} {E:Env} {L:List Blk} {w:World} (h:Rel w0 S0 E L w) {i:Nat} {xs d:List (List UInt8)} {rest:List AV} {c:Loc} (hi:L[i]?=some (.cells (aB xs++rest))) (hc:E.loc i=some c) (hd:d.length=xs.length) (q:Nat) :
   Rel w0 S0 E (L.set i (.cells (aB d++rest))) (putRow encStr (Sort.ahead w q) c.blk c.off d.toArray):=by
 obtain ⟨c',cs,ty,fr,h1,h2,h3,h4,h5,h6⟩:=h.blk i _ hi
 rw [hc] at h1;cases h1
 have hlt:c.blk<w.heap.size:=(Array.getElem?_eq_some_iff.1 h2).1
 have e1:(putRow encStr (Sort.ahead w q) c.blk c.off d.toArray).heap[c.blk]?=some (.cells (putCells encStr c.off d.toArray cs) ty fr):=by
   simp [putRow,mapBlock,Sort.ahead,Array.getElem?_modify,h2,onCells]
 have hlen:(aB xs++rest).length=xs.length+rest.length:=by simp
 refine h.turn (k':=.cells (aB d++rest)) hi rfl hc (by simp) (fun b hb=>?_) rfl rfl rfl ⟨c,_,ty,fr,hc,e1,by simp [putCells,h3],?_,fun j a ha=>?_,h6⟩ (fun _ _ e=>by cases e)
 · have:c.blk≠b:=fun e=>hb e.symm
   simp [putRow,mapBlock,Sort.ahead,Array.getElem?_modify,this]
 · rw [hlen] at h4
   simp only [List.length_append,List.length_map,hd];omega
 · rw [hlen] at h4
   have hj:j<d.length+rest.length:=by
     have:=(List.getElem?_eq_some_iff.1 ha).1
     simpa using this
   have hcs:c.off+j<cs.size:=by omega
   have ep:(putCells encStr c.off d.toArray cs)[c.off+j]?=some (if c.off≤c.off+j∧c.off+j<c.off+d.length then encStr (d.toArray[c.off+j - c.off]!) else cs[c.off+j]):=by
     simp [putCells,hcs]
   by_cases hjd:j<d.length
   · have ea:a=.str d[j]:=by
       rw [List.getElem?_append_left (by simpa using hjd)] at ha
       simpa [hjd] using ha.symm
     subst ea
     refine ⟨_,ep,?_⟩
     rw [if_pos (by omega),show c.off+j - c.off=j by omega]
     simp [VR,encStr,hjd]
   · have ha':(aB xs++rest)[j]?=some a:=by
       rw [List.getElem?_append_right (by simp;omega)] at ha ⊢
       simpa [hd] using ha
     obtain ⟨v,g1,g2⟩:=h5 j a ha'
     refine ⟨v,?_,g2⟩
     rw [ep,if_neg (by omega),← g1]
     simp [hcs]
theorem Dg {w0:World} {S0:SB} {E:Env} {L:List Blk} {w:World} (h:Rel w0 S0 E L w) {i:Nat} {xs:List (List UInt8)} {rest:List AV} {c:Loc} (hi:L[i]?=some (.cells (aB xs++rest))) (hc:E.loc i=some c) :
   Holds encStr w c.blk c.off xs.toArray∧c.blk<w.heap.size:=by
 obtain ⟨c',cs,ty,fr,h1,h2,h3,h4,h5,h6⟩:=h.blk i _ hi
 rw [hc] at h1;cases h1
 refine ⟨fun j hj=>?_,(Array.getElem?_eq_some_iff.1 h2).1⟩
 have hj':j<xs.length:=by simpa using hj
 obtain ⟨v,g1,g2⟩:=h5 j (.str xs[j]) (by rw [List.getElem?_append_left (by simpa using hj')];simp [hj'])
 simp only [VR] at g2
 subst g2
 refine ⟨by simp [World.cell?,encStr,h2,g1,hj'],?_⟩
 have h7:=h6 (c.off+j) (by omega) (by simp only [List.length_append,List.length_map] at h4;omega)
 simp only [World.frozen?,h2]
 obtain ⟨f1,f2⟩:=fr
 simp only at h7
 simp only [Bool.and_eq_false_iff,decide_eq_false_iff_not]
 omega
theorem fC {P:Program} {f:FuncId} {fn:Func} (hf:P.funcs[f]?=some fn) (hb:fn.body.isSome=true) (hn:(fn.name == "runtime.NumGoroutine")=false) (args:Array Value) (w:World):(callFunc f args).run P w=.ok (.enter f args) w:=by
 simp only [callFunc,Sem.run_bind,run_program,Result.andThen_ok,hf,hn]
 cases h:fn.body with
 | none=>simp [h] at hb
 | some c=>simp
def da (xs:List (List UInt8)):List (List UInt8):=xs.mergeSort fun x y=>decide (x≤y)
theorem LJ {xs:List (List UInt8)} {i:Nat} {cp:Option Nat} {rest:List AV} (hx:xs≠[]) (hn:xs.length≤1100000) (hL:L[i]?=some (.cells (aB xs++rest))) (h:K (.tup []) (L.set i (.cells (aB (da xs)++rest)))) :
   ab Tryz.prog 116 [.lsl i 0 xs.length cp 1] L K:=fun w0 S0 E w vs hR hv=>by
 simp only [VRL,VR] at hv
 obtain ⟨_,_,rfl,⟨c,rc,d,hc,rfl,hd,hle,_,_⟩,rfl⟩:=hv
 have hpos:0<xs.length:=List.length_pos_iff.2 hx
 have hd':d=c.off:=by have:=hd (by omega);omega
 subst hd'
 obtain ⟨hH,hlt⟩:=Dg hR hL hc
 refine .inl ⟨fC Tryz.func116 rfl (by kernel_rfl) _ _,(Tryz.slices_Sort_string c.blk c.off rc xs w hH hlt (by omega)).mono ?_⟩
 rintro e w' ⟨rfl,q,os,rfl⟩
 have r1:=hR.putStrs hL hc (d:=da xs) (by simp [da]) q
 refine ⟨E,_,_,_,rfl,.refl E,h,by simp [VR,VRL],r1.grown ?_⟩
 exact ⟨fun b hb=>Array.getElem?_append_left hb,by simp [grow],rfl,rfl,rfl⟩
theorem Kf {cap:Option Nat} (h:K (.tup []) L):ab Tryz.prog 116 [.sl [] 0 cap] L K :=
 mM Tryz.func116 rfl (by kernel_rfl) (fun w0 S0 E w vs hR hv=>by
   simp only [VRL,VR] at hv
   obtain ⟨_,_,rfl,⟨p,c,rfl,_⟩,rfl⟩:=hv
   exact (Tryz.slices_Sort_string_none p c w).mono fun e w' ⟨he,hw⟩=>⟨_,he,by simp [VR,VRL],by subst hw;exact EG.refl _⟩) h
theorem Mh {xs:List (List UInt8)} {sep:List UInt8} {i:Nat} {cp:Option Nat} (hx:xs≠[]) (hn:xs.length≤1100000) (hl:(Lib.join xs sep).length≤140737488355328) (hL:L[i]?=some (.cells (aB xs))) (h:K (.str (Lib.join xs sep)) L) :
   ab Tryz.prog 83 [.lsl i 0 xs.length cp 1,.str sep] L K:=fun w0 S0 E w vs hR hv=>by
 simp only [VRL,VR] at hv
 obtain ⟨_,_,rfl,⟨c,rc,d,hc,rfl,hd,hle,_,_⟩,_,_,rfl,rfl,rfl⟩:=hv
 have hpos:0<xs.length:=List.length_pos_iff.2 hx
 have hd':d=c.off:=by have:=hd (by omega);omega
 subst hd'
 obtain ⟨hH,hlt⟩:=Dg (rest:=[]) hR (by simpa using hL) hc
 have hmem:∀ (j:Nat) x,(xs.map fun s=>(⟨⟨s⟩⟩:ByteArray))[j]?=some x→w.cell? ⟨c.blk,c.off+j,none⟩=some (.string x):=fun j x hj=>by
   have hjl:j<xs.length:=by have:=(List.getElem?_eq_some_iff.1 hj).1;simpa using this
   have e:=(hH j (by simpa using hjl)).1
   rw [List.getElem?_map,List.getElem?_eq_getElem hjl] at hj
   simp only [Option.map_some,Option.some.injEq] at hj
   subst hj
   rw [e]
   simp [encStr,hjl]
 have hmm:(xs.map fun s=>(⟨⟨s⟩⟩:ByteArray)).map (·.data.toList)=xs:=by rw [List.map_map];exact List.map_id'' (fun _=>rfl) xs
 have key:=Tryz.strings_Join c.blk c.off rc (xs.map fun s=>(⟨⟨s⟩⟩:ByteArray)) ⟨⟨sep⟩⟩ w hmem hlt (by rw [List.length_map];omega) (by rw [List.length_map];exact hle) (by rw [hmm];exact hl)
 rw [hmm] at key
 simp only [List.length_map] at key
 refine .inl ⟨fC Tryz.func83 rfl (by kernel_rfl) _ _,key.mono ?_⟩
 rintro e w' ⟨rfl,hbel⟩
 exact ⟨E,_,_,_,rfl,.refl E,h,by simp [VR],hR.grown ⟨fun b hb=>hbel.block b hb,hbel.size,hbel.os,hbel.tape,hbel.output⟩⟩
end Go.Proofs.YtdhjplmjpjfjnaaGreat.Av
set_option maxRecDepth 100000
namespace Go.Proofs.YtdhjplmjpjfjnaaGreat.Av
open Go
def Cb:LSO:=[A0 4]
def Ca:LSO:=[Am 5]
def BZ:LSO:=[Aa 11 0,Ae 12 11,Ac 13 0]
def BY:LSO:=[Al 14 13 12]
def BX:LSO:=[Aj 15 1 11 13,Ab 16 1 15,Aa 7 16]
def BW:LSO:=[Am 8]
def BV:LSO:=[Aa 17 7,Ae 18 17,Ac 19 0]
def BU:LSO:=[Al 20 19 18]
def At:LSO:=[Aj 21 2 17 19,A1 22 2 21,AM 10,Ay 2 10 22]
def z8:LSO:=[Aa 23 1]
def yy:List (aj×Kd) :=
 [Ap 24 0 10,Ao 25 1 24 0 0,A8 26 113 25 0 0,Ap 27 1 10,Ao 28 1 27 0 0]
def wJ:List aj :=
 [⟨(some 29),(.call 114 [(tm 28)]),none⟩,⟨(some 30),(.build [(.str []),(.str [])] [(0,(1,(tm 26))),(1,(1,(tm 29)))]),none⟩,⟨none,(.store 2 (tm 10) (tm 30)),none⟩]
def yx:List (aj×Kd) :=
 [Az 31 8,Ap 32 0 10,Ao 33 1 32 0 0,od 34 (.bin .add (tm 33) (.av (.str [61]))) .pure,Ap 35 1 10,Ao 36 1 35 0 0,A8 37 115 36 0 0,od 38 (.bin .add (tm 34) (tm 37)) .pure,
 od 39 (.bslice false 1 1 [(.str [])] [(0,(1,(tm 38)))]) (.read 0 0)]
def wI:List aj :=
 [⟨(some 40),(.app 2 1 16 [(.str [])] (tm 31) (tm 39)),none⟩,⟨(some 8),(.mv (tm 40)),none⟩]
def yw:LSO:=[Ai 41 19 1,Aa 19 41]
def yv:LSO:=[Aa 42 1]
def yu:LSO:=[Aa 43 8,Ah 44 116 43]
def yt:LSO:=[Aa 45 5,Aa 46 8,o1 47 (.call 83 [(tm 46),(.av (.str [43]))]),Bu 48 47,o1 49 (.app 1 1 16 [(.str [])] (tm 45) (tm 48)),Aa 5 49]
def yr:LSO:=[Ai 50 13 1,Aa 13 50]
def yq:LSO:=[Aa 51 5,o1 52 (.call 83 [(tm 51),(.av (.str [44]))]),Aa 4 52]
def pS:bh:=⟨53,(.seq (.sreg Cb [])
 (.seq (.sreg Ca [])
 (.seq (.seq (.sreg BZ [])
 (.block 0 (.loop (.seq (.sreg BY [])
 (.seq (.cond (tm 14) .skip
 (.exit 0))
 (.seq (.block 1 (.seq (.sreg BX B5)
 (.seq (.sreg BW [])
 (.seq (.seq (.sreg BV [])
 (.block 2 (.loop (.seq (.sreg BU [])
 (.seq (.cond (tm 20) .skip
 (.exit 2))
 (.seq (.block 3 (.seq (.sreg At B5)
 (.seq (.seq (.sreg z8 [])
 (.cond (tm 23) (.dregM yy wJ BR)
 .skip))
 (.dregM yx wI BG))))
 (.sreg yw B4)))))))
 (.seq (.seq (.sreg yv [])
 (.cond (tm 42) (.sreg yu [false,false])
 .skip))
 (.sreg yt B9))))))
 (.sreg yr B4)))))))
 (.seq (.sreg yq B5)
 .ret)))),[(.tmp 4)]⟩
attribute [push_cast] Cb Ca BZ BY BX BW BV BU At z8 yy wJ yx wI yw yv yu yt yr yq
theorem zt:bz Tryz.prog (fun r i=>if r=11∧i=9 then 2 else 1) 73=some pS.raw:=by kernel_rfl
variable {L:List Blk} {K:AV→List Blk→Prop}
set_option maxHeartbeats 8000000
set_option maxRecDepth 100000
def avT (key:Bool) (a:Ava):List UInt8:=if key=true then aD a.1++[61]++eG (bj a.2) else a.1++[61]++eG a.2
def bL (key:Bool) (r:Rdn):List UInt8:=Lib.join (if key=true then da (r.map (avT key)) else r.map (avT key)) [43]
def aK (key:Bool) (d:List Rdn):List UInt8:=Lib.join (d.map (bL key)) [44]
theorem xN (n:Nat):∀ (s:List UInt8) (i:Nat),(wrL n i s).length≤3 * s.length
 | [],_=>by simp [wrL]
 | c::s,i=>by
   have h1:=xN n s (i+1)
   have h2:=LE i n c
   simp only [wrL,List.length_append,List.length_cons];omega
theorem I1 (l:List (List UInt8)):AV.frzL (aB l)=aB l:=by
 rw [AV.frzL_eq,List.map_map];rfl
theorem IF {xs:List (List UInt8)} {sep:List UInt8} {i n:Nat} (hx:n=xs.length) (hn:xs.length≤1100000) (hl:(Lib.join xs sep).length≤140737488355328) (h:K (.str (Lib.join xs sep)) L) :
   ab Tryz.prog 83 [.gsl (aB xs) n i 1,.str sep] L K:=by
 subst hx
 exact pV (by simpa only [AV.frzL,AV.frz,I1] using zi (cap:=none) hn hl h)
theorem GF {xs:List (List UInt8)} {sep:List UInt8} {i n:Nat} {cp:Option Nat} (he:n=xs.length) (hx:xs≠[]) (hn:xs.length≤1100000) (hl:(Lib.join xs sep).length≤140737488355328) (hL:L[i]?=some (.cells (aB xs))) (h:K (.str (Lib.join xs sep)) L) :
   ab Tryz.prog 83 [.lsl i 0 n cp 1,.str sep] L K:=by
 subst he
 exact Mh hx hn hl hL h
theorem LH {d:List Rdn} {cap:Option Nat} (hn:d.length≤1000) (hr:∀ r∈d,r.length≤1000∧∀ a∈r,a.1.length≤10000∧a.2.length≤10000) (hj1:∀ r∈d,(bL false r).length≤140737488355328) (hj2:(aK false d).length≤140737488355328) (h:K (.str (aK false d)) L) :
   ab Tryz.prog 73 [.sl (d.map ao) d.length cap,.bool false] L K:=by
 replace h:=hid h
 have hat:=hid (fun k=>@ij d k)
 replace hr:=hid hr
 replace hj1:=hid hj1
 have s4:∀ (W:List Blk) (j:Nat) (A:Blk),L.length≤j→(L++W).set j A=L++W.set (j - L.length) A:=fun W j A hj=>List.set_append_right _ _ hj
 replace s4:=hid s4
 refine aa zt (by simp [pS]) ?_
 simp only [pS,am]
 refine wk ?_
 refine cq (l:=[]) (n:=0) 5 1 rfl (Nat.zero_mul 1).symm ?_
 refine ax (fun n T' L'=>∃ (i:Nat) (all:List (List UInt8)) (Z:List Blk),n=d.length - i∧i≤d.length∧Hid (all=(d.take i).map (bL false))∧L'[L.length]?=some (.spare i 1)∧T'=[(13,.int .i64 (i:Int)),(12,.int .i64 d.length),(11,.sl (d.map ao) d.length cap),(5,.gsl (aB all) i L.length 1),(1,.bool false)]∧L'=L++Z) (CutS (b:=by simp)) ⟨0,[],[.spare 0 1],rfl,Nat.zero_le _,hid rfl,by simp,rfl,rfl⟩ ?_
 rintro _ _ _ ⟨i,all,X,rfl,hi,hall,ho,rfl,rfl⟩
 by_cases hlt:i<d.length
 · have g1:(i:Int)<(d.length:Int):=by omega
   have g2:IntKind.i64.wrap ((i:Int)+1)=(i:Int)+1:=ah (by omega) (by omega)
   have e2:=hat.out i hlt
   have hrm:d.getD i []∈d:=by rw [List.getD_eq_getElem?_getD,List.getElem?_eq_getElem hlt];exact List.getElem_mem _
   have hrl:=hr.out _ hrm
   have hjr:=hj1.out _ hrm
   obtain ⟨r,hri⟩:∃ r,d.getD i []=r:=⟨_,rfl⟩
   have htk:d.take (i+1)=d.take i++[r]:=by rw [List.take_succ_eq_append_getElem hlt,← hri];simp [hlt]
   rw [hri] at e2 hrl hjr
   clear hri hrm
   obtain ⟨hrl1,hrl2⟩:=hrl
   replace hrl2:=hid hrl2
   replace htk:=hid htk
   have hX:=(List.getElem?_eq_some_iff.1 ho).1
   rw [List.length_append] at hX
   replace hX:=hid hX
   refine wk ?_
   refine ax (fun n T' L'=>∃ (k:Nat) (v:AV) (Z:List Blk),n=r.length - k∧k≤r.length∧X.length≤Z.length∧L'[L.length]?=some (.spare i 1)∧Hid ((v=.sl [] 0 (some 0)∧k=0)∨∃ j,(0<k∧L.length<j)∧v=.lsl j 0 k none 1∧L'[j]?=some (.cells (aB ((r.take k).map (avT false)))))∧T'=[(19,.int .i64 (k:Int)),(18,.int .i64 r.length),(17,ao r),(8,v),(13,.int .i64 (i:Int)),(12,.int .i64 d.length),(11,.sl (d.map ao) d.length cap),(5,.gsl (aB all) i L.length 1),(1,.bool false)]∧L'=L++Z) (CutS (b:=by simp)) ⟨0,_,X,rfl,Nat.zero_le _,Nat.le_refl _,ho,hid (.inl ⟨rfl,rfl⟩),rfl,rfl⟩ ?_
   rintro _ _ _ ⟨k,v,Z,rfl,hk,hXZ,ho2,hv,rfl,rfl⟩
   replace hXZ:=hid hXZ
   by_cases hkl:k<r.length
   · have g3:(k:Int)<(r.length:Int):=by omega
     have g4:IntKind.i64.wrap ((k:Int)+1)=(k:Int)+1:=ah (by omega) (by omega)
     have e3:=dQ hkl
     have e4:k * 2+2≤(aL r).length:=by rw [bt];omega
     obtain ⟨⟨ty,va⟩,ha⟩:∃ a,r.getD k ([],[])=a:=⟨_,rfl⟩
     have ham:(ty,va)∈r:=by rw [← ha];simp [hkl]
     have htk2:(r.take (k+1)).map (avT false)=(r.take k).map (avT false)++[ty++61::eG va]:=by
       rw [List.take_succ_eq_append_getElem hkl]
       have:r[k]=(ty,va):=by rw [← ha];simp [hkl]
       rw [this];simp [avT]
     rw [ha] at e3
     simp only [lF] at e3
     have hva:=hrl2.out _ ham
     simp only at hva
     have hva':va.length≤100000:=by omega
     have hwl:=xN va.length va 0
     have b1:(ty.length:Int)+1≤9223372036854775807:=by omega
     have b2:(ty.length:Int)+1+((eG va).length:Int)≤9223372036854775807:=by unfold eG;omega
     clear hwl ha ham hva
     replace htk2:=hid htk2
     have q1:(k+1) * 16≤140737488355328:=by omega
     have q2:k+1≤140737488355328:=by omega
     have q3:k≤140737488355327:=by omega
     rcases hv.out with ⟨rfl,hk0⟩|⟨j,⟨hk1,hBj⟩,rfl,hj⟩
     · replace hk0:=hid hk0
       have kk1:=@hid _ (fun L K=>eS hva' (L:=L) (K:=K))
       refine wk ?_
       refine ay _ _ _ (by omega) (CutL (b:=?_)) ⟨k+1,.lsl (L.length+(Z.length+1)) 0 1 none 1,_,rfl,hkl,?_,?_,hid (.inr ⟨L.length+(Z.length+1),⟨by omega,by omega⟩,by rw [hk0.out],?_⟩),rfl,rfl⟩
       · have:=hXZ.out;simp;omega
       · have:=hXZ.out;simp;omega
       · rw [← List.append_assoc,List.getElem?_append_left (List.getElem?_eq_some_iff.1 ho2).1];exact ho2
       · rw [lD,lD,htk2.out,hk0.out];rfl
     · obtain ⟨cur,hcur⟩:∃ cur,(r.take k).map (avT false)=cur:=⟨_,rfl⟩
       have hcl:cur.length=k:=by rw [← hcur];simp;omega
       rw [hcur] at hj
       have f1:(L++(Z++[Blk.cells [.str ty,.str va]]))[j]?=some (.cells (aB cur)):=by
         rw [← List.append_assoc,List.getElem?_append_left (List.getElem?_eq_some_iff.1 hj).1];exact hj
       have f2:(L++(Z++[Blk.cells [.str ty,.str va]])).set j .dead=L++(Z++[Blk.cells [.str ty,.str va]]).set (j - L.length) .dead:=s4.out _ _ _ (by omega)
       have f3:k≤(aB cur).length:=by simp [hcl]
       have f4:(aB cur).take k=aB cur:=List.take_of_length_le (by simp [hcl])
       replace hcur:=hid hcur
       replace hcl:=hid hcl
       have hjL:=hid (show j≠L.length by omega)
       have f2':=hid f2
       repeat' first
         | refine dT ?_
         | (first|refine cA (by kernel_rfl) ?_|refine bM (by kernel_rfl) ?_|refine bN ?_|refine fN ?_|refine ez (fun _=>?_)|refine bv ?_|refine cC ?_|refine eS hva' ?_|refine eE (eS hva' ⟨rfl,rfl⟩) (eS hva' ⟨rfl,rfl⟩) ?_|refine bF (eS hva' ⟨rfl,rfl⟩) ?_)
           refine sm ?_
         | (first|refine ct (by kernel_rfl) ?_|refine co ?_|refine cB ?_|refine eF (bu ?_))
           refine sl ?_
         | exact eA
         | first|apply eB|apply cu|apply eC|apply cv|apply eD|apply cw
         | refine bQ ?_
         | first|refine bO rfl ?_|refine bP rfl ?_|refine aX rfl ?_ ?_|refine bX rfl (fun _=>?_) (fun _=>?_)|refine bW rfl (fun _=>?_) (fun _=>?_)
         | ((first|refine aW (fun _=>?_) (fun _=>?_)|refine br (fun _=>?_) (fun _=>?_))<;>try refine sm ?_)
         | refine And.intro trivial ?_
         | refine And.intro (by omega) ?_
         | refine bR rfl (fun _=>?_) (fun _=>?_)
         | refine And.intro ?_ ?_
       · rw [hcl.out];exact Nat.le_refl _
       · have hA:((Z++[Blk.cells [.str ty,.str va]]).set (j - L.length) .dead).length=Z.length+1:=by simp
         refine ay _ _ _ (by omega) (CutL (b:=?_)) ⟨k+1,.lsl (L.length+(Z.length+1)) 0 (k+1) none 1,_,rfl,hkl,?_,?_,hid (.inr ⟨L.length+(Z.length+1),⟨by omega,by omega⟩,rfl,?_⟩),rfl,rfl⟩
         · have:=hXZ.out;simp;omega
         · have:=hXZ.out;simp;omega
         · rw [← List.append_assoc,← f2'.out,List.getElem?_append_left (by simp),List.getElem?_set_ne hjL.out,← List.append_assoc,List.getElem?_append_left (List.getElem?_eq_some_iff.1 ho2).1]
           exact ho2
         · rw [lD,← hA,FS,htk2.out,hcur.out]
           simp
   · have hke:k=r.length:=by omega
     subst hke
     have g3:¬ (r.length:Int)<(r.length:Int):=by omega
     have q4:(i+1) * 16≤140737488355328:=by omega
     have q5:i+1≤140737488355328:=by omega
     have hrow:bL false r=Lib.join (r.map (avT false)) [43]:=by simp [bL]
     rw [hrow] at hjr
     have htk3:(d.take (i+1)).map (bL false)=all++[Lib.join (r.map (avT false)) [43]]:=by
       rw [htk.out,List.map_append,← hall.out,← hrow];rfl
     have f0:(L++Z).set L.length (.spare (i+1) 1)=L++Z.set 0 (.spare (i+1) 1):=by rw [s4.out _ _ _ (Nat.le_refl _),Nat.sub_self]
     have f1:(L++Z.set 0 (.spare (i+1) 1))[L.length]?=some (.spare (i+1) 1):=by
       rw [← f0,List.getElem?_set,if_pos rfl,if_pos (List.getElem?_eq_some_iff.1 ho2).1]
     replace hrow:=hid hrow
     replace htk3:=hid htk3
     replace f1:=hid f1
     rcases hv.out with ⟨rfl,hk0⟩|⟨j,⟨hk1,hBj⟩,rfl,hj⟩
     · have hr0:r=[]:=List.length_eq_zero_iff.1 hk0
       replace hk0:=hid hk0
       refine wk ?_
       refine zi (xs:=[]) (by simp) (by simp [Lib.join]) ?_
       refine sk ?_
       refine wk ?_
       rw [show aB all++[AV.str (Lib.join [] [43])]=aB (all++[Lib.join [] [43]]) by simp]
       exact ay _ _ _ (by omega) (CutL (b:=by have:=hX.out;have h0:=(List.getElem?_eq_some_iff.1 ho2).1;simp at h0 ⊢;omega)) ⟨i+1,all++[Lib.join [] [43]],_,rfl,hlt,hid (by rw [htk3.out,hr0];rfl),f1.out,rfl,rfl⟩
     · rw [List.take_length] at hj
       by_cases hr0:r=[]
       · rw [hr0] at hk1;cases hk1
       · refine wk ?_
         refine GF (xs:=r.map (avT false)) (by simp) (by simpa using hr0) (by simp;omega) hjr (by simpa using hj) ?_
         refine sk ?_
         refine wk ?_
         rw [show aB all++[AV.str (Lib.join (r.map (avT false)) [43])]=aB (all++[Lib.join (r.map (avT false)) [43]]) by simp]
         exact ay _ _ _ (by omega) (CutL (b:=by have h0:=(List.getElem?_eq_some_iff.1 ho2).1;simp at h0 ⊢;omega)) ⟨i+1,all++[Lib.join (r.map (avT false)) [43]],_,rfl,hlt,hid htk3.out.symm,f1.out,rfl,rfl⟩
 · have hke:i=d.length:=by omega
   subst hke
   have g1:¬ (d.length:Int)<(d.length:Int):=by omega
   have e:=hall.out
   rw [List.take_length] at e
   have h':=h.out
   simp only [aK] at h' hj2
   replace h':=hid h'
   clear hall
   subst e
   refine wk ?_
   refine IF (by simp) (by simp;omega) hj2 ?_
   refine sk ?_
   refine wk ?_
   exact ac rfl h'.out
theorem Hv (s:List UInt8):(bm s).length≤s.length:=by
 have:=lH s s.length
 rwa [List.take_length] at this
theorem vC (s:List UInt8):(bj s).length≤s.length:=by
 have h1:=Hv (aD s)
 have h2:(aD s).length=s.length:=by simp [aD]
 unfold bj cF
 split
 · simp only [List.length_dropLast];omega
 · omega
theorem Ke {xs:List (List UInt8)} {i n:Nat} {cp:Option Nat} (he:n=xs.length) (hx:xs≠[]) (hn:xs.length≤1100000) (hL:L[i]?=some (.cells (aB xs))) (h:K (.tup []) (L.set i (.cells (aB (da xs))))) :
   ab Tryz.prog 116 [.lsl i 0 n cp 1] L K:=by
 subst he
 exact LJ (rest:=[]) hx hn (by simpa using hL) (by simpa using h)
theorem EM (xs:List (List UInt8)):(da xs).length=xs.length:=by simp [da]
theorem Ip {d:List Rdn} {cap:Option Nat} (hn:d.length≤1000) (hr:∀ r∈d,r.length≤1000∧∀ a∈r,a.1.length≤10000∧a.2.length≤10000) (hj1:∀ r∈d,(bL true r).length≤140737488355328) (hj2:(aK true d).length≤140737488355328) (h:K (.str (aK true d)) L) :
   ab Tryz.prog 73 [.sl (d.map ao) d.length cap,.bool true] L K:=by
 replace h:=hid h
 have hat:=hid (fun k=>@ij d k)
 replace hr:=hid hr
 replace hj1:=hid hj1
 have s4:∀ (W:List Blk) (j:Nat) (A:Blk),L.length≤j→(L++W).set j A=L++W.set (j - L.length) A:=fun W j A hj=>List.set_append_right _ _ hj
 replace s4:=hid s4
 refine aa zt (by simp [pS]) ?_
 simp only [pS,am]
 refine wk ?_
 refine cq (l:=[]) (n:=0) 5 1 rfl (Nat.zero_mul 1).symm ?_
 refine ax (fun n T' L'=>∃ (i:Nat) (all:List (List UInt8)) (Z:List Blk),n=d.length - i∧i≤d.length∧Hid (all=(d.take i).map (bL true))∧L'[L.length]?=some (.spare i 1)∧T'=[(13,.int .i64 (i:Int)),(12,.int .i64 d.length),(11,.sl (d.map ao) d.length cap),(5,.gsl (aB all) i L.length 1),(1,.bool true)]∧L'=L++Z) (CutS (b:=by simp)) ⟨0,[],[.spare 0 1],rfl,Nat.zero_le _,hid rfl,by simp,rfl,rfl⟩ ?_
 rintro _ _ _ ⟨i,all,X,rfl,hi,hall,ho,rfl,rfl⟩
 by_cases hlt:i<d.length
 · have g1:(i:Int)<(d.length:Int):=by omega
   have g2:IntKind.i64.wrap ((i:Int)+1)=(i:Int)+1:=ah (by omega) (by omega)
   have e2:=hat.out i hlt
   have hrm:d.getD i []∈d:=by rw [List.getD_eq_getElem?_getD,List.getElem?_eq_getElem hlt];exact List.getElem_mem _
   have hrl:=hr.out _ hrm
   have hjr:=hj1.out _ hrm
   obtain ⟨r,hri⟩:∃ r,d.getD i []=r:=⟨_,rfl⟩
   have htk:d.take (i+1)=d.take i++[r]:=by rw [List.take_succ_eq_append_getElem hlt,← hri];simp [hlt]
   rw [hri] at e2 hrl hjr
   clear hri hrm
   obtain ⟨hrl1,hrl2⟩:=hrl
   replace hrl2:=hid hrl2
   replace htk:=hid htk
   have hX:=(List.getElem?_eq_some_iff.1 ho).1
   rw [List.length_append] at hX
   replace hX:=hid hX
   refine wk ?_
   refine ax (fun n T' L'=>∃ (k:Nat) (v:AV) (Z:List Blk),n=r.length - k∧k≤r.length∧X.length≤Z.length∧L'[L.length]?=some (.spare i 1)∧Hid ((v=.sl [] 0 (some 0)∧k=0)∨∃ j,(0<k∧L.length<j)∧v=.lsl j 0 k none 1∧L'[j]?=some (.cells (aB ((r.take k).map (avT true)))))∧T'=[(19,.int .i64 (k:Int)),(18,.int .i64 r.length),(17,ao r),(8,v),(13,.int .i64 (i:Int)),(12,.int .i64 d.length),(11,.sl (d.map ao) d.length cap),(5,.gsl (aB all) i L.length 1),(1,.bool true)]∧L'=L++Z) (CutS (b:=by simp)) ⟨0,_,X,rfl,Nat.zero_le _,Nat.le_refl _,ho,hid (.inl ⟨rfl,rfl⟩),rfl,rfl⟩ ?_
   rintro _ _ _ ⟨k,v,Z,rfl,hk,hXZ,ho2,hv,rfl,rfl⟩
   replace hXZ:=hid hXZ
   by_cases hkl:k<r.length
   · have g3:(k:Int)<(r.length:Int):=by omega
     have g4:IntKind.i64.wrap ((k:Int)+1)=(k:Int)+1:=ah (by omega) (by omega)
     have e3:=dQ hkl
     have e4:k * 2+2≤(aL r).length:=by rw [bt];omega
     obtain ⟨⟨ty,va⟩,ha⟩:∃ a,r.getD k ([],[])=a:=⟨_,rfl⟩
     have ham:(ty,va)∈r:=by rw [← ha];simp [hkl]
     have htk2:(r.take (k+1)).map (avT true)=(r.take k).map (avT true)++[aD ty++61::eG (bj va)]:=by
       rw [List.take_succ_eq_append_getElem hkl]
       have:r[k]=(ty,va):=by rw [← ha];simp [hkl]
       rw [this];simp [avT]
     rw [ha] at e3
     simp only [lF] at e3
     have hva:=hrl2.out _ ham
     simp only at hva
     have hpl:=vC va
     have hva':(bj va).length≤100000:=by omega
     have hva2:(va.length:Int)≤100000:=by omega
     have hty2:(ty.length:Int)≤100000:=by omega
     have hwl:=xN (bj va).length (bj va) 0
     have hfl:(aD ty).length=ty.length:=by simp [aD]
     have b1:((aD ty).length:Int)+1≤9223372036854775807:=by omega
     have b2:((aD ty).length:Int)+1+((eG (bj va)).length:Int)≤9223372036854775807:=by unfold eG;omega
     clear hwl ha ham hva hfl hpl
     replace htk2:=hid htk2
     have q1:(k+1) * 16≤140737488355328:=by omega
     have q2:k+1≤140737488355328:=by omega
     have q3:k≤140737488355327:=by omega
     rcases hv.out with ⟨rfl,hk0⟩|⟨j,⟨hk1,hBj⟩,rfl,hj⟩
     · replace hk0:=hid hk0
       have kk1:=@hid _ (fun L K=>vi hty2 (L:=L) (K:=K))
       have kk2:=@hid _ (fun L K=>Dp hva2 (L:=L) (K:=K))
       have kk3:=@hid _ (fun L K=>eS hva' (L:=L) (K:=K))
       refine wk ?_
       refine ay _ _ _ (by omega) (CutL (b:=?_)) ⟨k+1,.lsl (L.length+(Z.length+1)) 0 1 none 1,_,rfl,hkl,?_,?_,hid (.inr ⟨L.length+(Z.length+1),⟨by omega,by omega⟩,by rw [hk0.out],?_⟩),rfl,rfl⟩
       · have:=hXZ.out;simp;omega
       · have:=hXZ.out;simp;omega
       · rw [← List.append_assoc,List.getElem?_append_left (List.getElem?_eq_some_iff.1 ho2).1];exact ho2
       · rw [lD,lD,htk2.out,hk0.out];rfl
     · obtain ⟨cur,hcur⟩:∃ cur,(r.take k).map (avT true)=cur:=⟨_,rfl⟩
       have hcl:cur.length=k:=by rw [← hcur];simp;omega
       rw [hcur] at hj
       have f1:(L++(Z++[Blk.cells [.str (aD ty),.str (bj va)]]))[j]?=some (.cells (aB cur)):=by
         rw [← List.append_assoc,List.getElem?_append_left (List.getElem?_eq_some_iff.1 hj).1];exact hj
       have f2:(L++(Z++[Blk.cells [.str (aD ty),.str (bj va)]])).set j .dead=L++(Z++[Blk.cells [.str (aD ty),.str (bj va)]]).set (j - L.length) .dead:=s4.out _ _ _ (by omega)
       have f3:k≤(aB cur).length:=by simp [hcl]
       have f4:(aB cur).take k=aB cur:=List.take_of_length_le (by simp [hcl])
       replace hcur:=hid hcur
       replace hcl:=hid hcl
       have hjL:=hid (show j≠L.length by omega)
       have f2':=hid f2
       repeat' first
         | refine dT ?_
         | (first|refine cA (by kernel_rfl) ?_|refine bM (by kernel_rfl) ?_|refine bN ?_|refine fN ?_|refine ez (fun _=>?_)|refine bv ?_|refine cC ?_|refine vi hty2 ?_|refine Dp hva2 ?_|refine eS hva' ?_|refine eE (vi hty2 ⟨rfl,rfl⟩) (vi hty2 ⟨rfl,rfl⟩) ?_|refine eE (Dp hva2 ⟨rfl,rfl⟩) (Dp hva2 ⟨rfl,rfl⟩) ?_|refine eE (eS hva' ⟨rfl,rfl⟩) (eS hva' ⟨rfl,rfl⟩) ?_|refine bF (vi hty2 ⟨rfl,rfl⟩) ?_|refine bF (Dp hva2 ⟨rfl,rfl⟩) ?_|refine bF (eS hva' ⟨rfl,rfl⟩) ?_)
           refine sm ?_
         | (first|refine ct (by kernel_rfl) ?_|refine co ?_|refine cB ?_|refine eF (bu ?_))
           refine sl ?_
         | exact eA
         | first|apply eB|apply cu|apply eC|apply cv|apply eD|apply cw
         | refine bQ ?_
         | first|refine bO rfl ?_|refine bP rfl ?_|refine aX rfl ?_ ?_|refine bX rfl (fun _=>?_) (fun _=>?_)|refine bW rfl (fun _=>?_) (fun _=>?_)
         | ((first|refine aW (fun _=>?_) (fun _=>?_)|refine br (fun _=>?_) (fun _=>?_))<;>try refine sm ?_)
         | refine And.intro trivial ?_
         | refine And.intro (by omega) ?_
         | refine bR rfl (fun _=>?_) (fun _=>?_)
         | refine And.intro ?_ ?_
       · rw [hcl.out];exact Nat.le_refl _
       · have hA:((Z++[Blk.cells [.str (aD ty),.str (bj va)]]).set (j - L.length) .dead).length=Z.length+1:=by simp
         refine ay _ _ _ (by omega) (CutL (b:=?_)) ⟨k+1,.lsl (L.length+(Z.length+1)) 0 (k+1) none 1,_,rfl,hkl,?_,?_,hid (.inr ⟨L.length+(Z.length+1),⟨by omega,by omega⟩,rfl,?_⟩),rfl,rfl⟩
         · have:=hXZ.out;simp;omega
         · have:=hXZ.out;simp;omega
         · rw [← List.append_assoc,← f2'.out,List.getElem?_append_left (by simp),List.getElem?_set_ne hjL.out,← List.append_assoc,List.getElem?_append_left (List.getElem?_eq_some_iff.1 ho2).1]
           exact ho2
         · rw [lD,← hA,FS,htk2.out,hcur.out]
           simp
   · have hke:k=r.length:=by omega
     subst hke
     have g3:¬ (r.length:Int)<(r.length:Int):=by omega
     have q4:(i+1) * 16≤140737488355328:=by omega
     have q5:i+1≤140737488355328:=by omega
     have hrow:bL true r=Lib.join (da (r.map (avT true))) [43]:=by simp [bL]
     rw [hrow] at hjr
     have htk3:(d.take (i+1)).map (bL true)=all++[Lib.join (da (r.map (avT true))) [43]]:=by
       rw [htk.out,List.map_append,← hall.out,← hrow];rfl
     replace hrow:=hid hrow
     replace htk3:=hid htk3
     rcases hv.out with ⟨rfl,hk0⟩|⟨j,⟨hk1,hBj⟩,rfl,hj⟩
     · have hr0:r=[]:=List.length_eq_zero_iff.1 hk0
       have f0:(L++Z).set L.length (.spare (i+1) 1)=L++Z.set 0 (.spare (i+1) 1):=by rw [s4.out _ _ _ (Nat.le_refl _),Nat.sub_self]
       have f1:(L++Z.set 0 (.spare (i+1) 1))[L.length]?=some (.spare (i+1) 1):=by
         rw [← f0,List.getElem?_set,if_pos rfl,if_pos (List.getElem?_eq_some_iff.1 ho2).1]
       replace f1:=hid f1
       replace hk0:=hid hk0
       refine wk ?_
       refine Kf ?_
       refine sk ?_
       refine wk ?_
       refine zi (xs:=[]) (by simp) (by simp [Lib.join]) ?_
       refine sk ?_
       refine wk ?_
       rw [show aB all++[AV.str (Lib.join [] [43])]=aB (all++[Lib.join [] [43]]) by simp]
       exact ay _ _ _ (by omega) (CutL (b:=by have:=hX.out;have h0:=(List.getElem?_eq_some_iff.1 ho2).1;simp at h0 ⊢;omega)) ⟨i+1,all++[Lib.join [] [43]],_,rfl,hlt,hid (by rw [htk3.out,hr0];simp [da]),f1.out,rfl,rfl⟩
     · rw [List.take_length] at hj
       have hr0:r≠[]:=fun e=>by rw [e] at hk1;cases hk1
       obtain ⟨xs,hxs⟩:∃ xs,r.map (avT true)=xs:=⟨_,rfl⟩
       have hxl:r.length=xs.length:=by rw [← hxs];simp
       have hxne:xs≠[]:=fun e=>hr0 (by have:=hxl;rw [e] at this;exact List.length_eq_zero_iff.1 this)
       rw [hxs] at hj hjr htk3
       have hsl:=EM xs
       have hjl:L.length+(j - L.length)=j:=by omega
       have f2:(L++Z).set j (.cells (aB (da xs)))=L++Z.set (j - L.length) (.cells (aB (da xs))):=s4.out _ _ _ (by omega)
       have f3:(L++Z.set (j - L.length) (.cells (aB (da xs))))[j]?=some (.cells (aB (da xs))):=by
         rw [← f2,List.getElem?_set,if_pos rfl,if_pos (List.getElem?_eq_some_iff.1 hj).1]
       have ho3:(L++Z.set (j - L.length) (.cells (aB (da xs))))[L.length]?=some (.spare i 1):=by
         rw [← f2,List.getElem?_set_ne (by omega)];exact ho2
       clear ho2
       replace hj:=hid hj
       generalize hZ1:Z.set (j - L.length) (.cells (aB (da xs)))=Z1 at f2 f3 ho3
       have f0:(L++Z1).set L.length (.spare (i+1) 1)=L++Z1.set 0 (.spare (i+1) 1):=by rw [s4.out _ _ _ (Nat.le_refl _),Nat.sub_self]
       have f1:(L++Z1.set 0 (.spare (i+1) 1))[L.length]?=some (.spare (i+1) 1):=by
         rw [← f0,List.getElem?_set,if_pos rfl,if_pos (List.getElem?_eq_some_iff.1 ho3).1]
       replace f1:=hid f1
       replace f2:=hid f2
       replace f3:=hid f3
       replace hxs:=hid hxs
       replace hxl:=hid hxl
       replace hsl:=hid hsl
       clear hZ1
       replace hxne:=hid hxne
       refine wk ?_
       refine Ke hxl.out hxne.out (by have:=hxl.out;omega) hj.out ?_
       rw [f2.out]
       refine sk ?_
       refine wk ?_
       refine GF (xs:=da xs) (by rw [hsl.out];exact hxl.out) (fun e=>hxne.out (by have:=hsl.out;rw [e] at this;exact List.length_eq_zero_iff.1 this.symm)) (by have:=hxl.out;rw [hsl.out];omega) hjr f3.out ?_
       refine sk ?_
       refine wk ?_
       rw [show aB all++[AV.str (Lib.join (da xs) [43])]=aB (all++[Lib.join (da xs) [43]]) by simp]
       exact ay _ _ _ (by omega) (CutL (b:=by have h0:=(List.getElem?_eq_some_iff.1 ho3).1;simp at h0 ⊢;omega)) ⟨i+1,all++[Lib.join (da xs) [43]],_,rfl,hlt,hid htk3.out.symm,f1.out,rfl,rfl⟩
 · have hke:i=d.length:=by omega
   subst hke
   have g1:¬ (d.length:Int)<(d.length:Int):=by omega
   have e:=hall.out
   rw [List.take_length] at e
   have h':=h.out
   simp only [aK] at h' hj2
   replace h':=hid h'
   clear hall
   subst e
   refine wk ?_
   refine IF (by simp) (by simp;omega) hj2 ?_
   refine sk ?_
   refine wk ?_
   exact ac rfl h'.out
def ve (r:Rdn):Bool:=r.any fun a=>decide (4096<a.2.length)
def pI (d:List Rdn):Bool:=d.any ve
theorem Fm:∀ (t done:Rdn),cr done t=0→done.length≤8→(done++t).length≤8∧∀ a∈t,a.1.length≤32
 | [],done,_,h=>by simp;exact h
 | a::t,done,h,hd=>by
   simp only [cr] at h
   split at h
   · cases h
   · split at h
     · cases h
     · split at h
       · cases h
       · rename_i h1 h2 h3
         have:=Fm t (done++[a]) h (by simp;omega)
         refine ⟨by simpa using this.1,fun b hb=>?_⟩
         rcases List.mem_cons.1 hb with rfl|hb
         · exact Db (by simpa using h2)
         · exact this.2 b hb
theorem C5:∀ (d:List Rdn) (i:Nat),fz i d=0→i≤32→i+d.length≤32∧∀ r∈d,r.length≤8∧∀ a∈r,a.1.length≤32
 | [],i,_,h=>by simp;exact h
 | r::d,i,h,hi=>by
   simp only [fz] at h
   split at h
   · cases h
   · split at h
     · cases h
     · split at h
       · rename_i h3;exact absurd h h3
       · rename_i h1 h2 h3
         have h3':cr [] r=0:=by simpa using h3
         have a1:=Fm r [] h3' (by simp)
         have a2:=C5 d (i+1) h (by omega)
         refine ⟨by simp;omega,fun q hq=>?_⟩
         rcases List.mem_cons.1 hq with rfl|hq
         · exact ⟨by simpa using a1.1,a1.2⟩
         · exact a2.2 q hq
theorem vA (s:List UInt8):(eG s).length≤3 * s.length:=xN _ _ _
theorem MF {key:Bool} {a:Ava} (h1:a.1.length≤32) (h2:a.2.length≤4096):(avT key a).length≤20000:=by
 have e1:=vA a.2
 have e2:=vA (bj a.2)
 have e3:=vC a.2
 have e4:(aD a.1).length=a.1.length:=by simp [aD]
 unfold avT
 split
 · simp;omega
 · simp;omega
theorem DI {B:Nat} {sep:List UInt8}:∀ xs:List (List UInt8),(∀ x∈xs,x.length≤B)→(Lib.join xs sep).length≤xs.length * (B+sep.length)
 | [],_=>by simp [Lib.join]
 | [x],h=>by
   have:=h x (by simp)
   simp [Lib.join,List.intercalate];omega
 | x::y::l,h=>by
   have h1:=DI (sep:=sep) (y::l) fun z hz=>h z (List.mem_cons_of_mem _ hz)
   have h2:=h x (by simp)
   have e:Lib.join (x::y::l) sep=x++(sep++Lib.join (y::l) sep):=by simp [Lib.join,List.intercalate]
   rw [e]
   simp only [List.length_append,List.length_cons,Nat.succ_mul] at h1 ⊢
   omega
theorem xV {key:Bool} {r:Rdn} (h0:r.length≤8) (h1:∀ a∈r,a.1.length≤32) (h2:∀ a∈r,a.2.length≤4096):(bL key r).length≤200000:=by
 have key1:∀ xs:List (List UInt8),xs.length≤8→(∀ x∈xs,x.length≤20000)→(Lib.join xs [43]).length≤200000:=fun xs a b=>by
   have c:=DI (sep:=[43]) xs b
   have d:xs.length * (20000+[(43:UInt8)].length)≤8 * (20000+1):=Nat.mul_le_mul_right _ a
   omega
 have hm:∀ x∈r.map (avT key),x.length≤20000:=fun x hx=>by
   obtain ⟨a,ha,rfl⟩:=List.mem_map.1 hx
   exact MF (h1 a ha) (h2 a ha)
 unfold bL
 split
 · refine key1 _ (by rw [EM];simpa using h0) fun x hx=>hm x ?_
   exact (List.mergeSort_perm (r.map (avT key)) _).mem_iff.1 hx
 · exact key1 _ (by simpa using h0) hm
theorem xQ {key:Bool} {d:List Rdn} (h0:d.length≤32) (h1:∀ r∈d,(bL key r).length≤200000):(aK key d).length≤10000000:=by
 have c:=DI (sep:=[44]) (B:=200000) (d.map (bL key)) fun x hx=>by
   obtain ⟨r,hr,rfl⟩:=List.mem_map.1 hx
   exact h1 r hr
 have e:(d.map (bL key)).length * (200000+[(44:UInt8)].length)≤32 * (200000+1):=Nat.mul_le_mul_right _ (by simpa using h0)
 unfold aK
 omega
def prS (d:List Rdn):List UInt8×Int:=if fz 0 d≠0 then ([],fz 0 d) else if pI d=true then ([],5) else if 4096<(aK false d).length then ([],5) else (aK false d,0)
def Fu (p:List UInt8×Int):AV:=.tup [.str p.1,.int .i64 p.2]
def zI (d:List Rdn):List UInt8×Int:=if (prS d).2≠0 then ([],(prS d).2) else (aK true d,0)
theorem pW {d:List Rdn} {cap:Option Nat} (hn:d.length≤1100000) (hr:∀ r∈d,r.length≤1100000) (h:K (Fu (prS d)) L) :
   ab Tryz.prog 50 [.sl (d.map ao) d.length cap] L K:=by
 have hat:=hid (fun k=>@ij d k)
 unfold prS Fu at h
 refine aa ED (by simp [xH]) ?_
 simp only [xH,am]
 refine wk ?_
 refine Mu hn hr ?_
 by_cases hc:fz 0 d=0
 rotate_left
 · rw [if_pos hc] at h
   replace h:=hid h
   refine sk ?_
   refine wk ?_
   exact ak h.out
 rw [if_neg (by simpa using hc)] at h
 obtain ⟨hd32,hd8⟩:=C5 d 0 hc (by omega)
 rw [hc]
 replace hd8:=hid hd8
 replace h:=hid h
 clear hr hn hc
 refine sk ?_
 refine wk ?_
 refine ax (fun n T' L'=>∃ (i:Nat) (c:Int) (Z:List Blk),n=d.length - i∧i≤d.length∧Hid (pI (d.take i)=false∧0≤c∧c≤8 * i)∧T'=[(18,.int .i64 (i:Int)),(17,.int .i64 d.length),(16,.sl (d.map ao) d.length cap),(5,.int .i64 c),(0,.sl (d.map ao) d.length cap)]∧L'=L++Z) (CutS (b:=by simp)) ⟨0,0,[],rfl,Nat.zero_le _,hid ⟨rfl,by omega,by omega⟩,rfl,by simp⟩ ?_
 rintro _ _ _ ⟨i,c,X,rfl,hi,hI,rfl,rfl⟩
 by_cases hlt:i<d.length
 · have g1:(i:Int)<(d.length:Int):=by omega
   have g2:IntKind.i64.wrap ((i:Int)+1)=(i:Int)+1:=ah (by omega) (by omega)
   have e2:=hat.out i hlt
   have hrm:d.getD i []∈d:=by rw [List.getD_eq_getElem?_getD,List.getElem?_eq_getElem hlt];exact List.getElem_mem _
   obtain ⟨r,hri⟩:∃ r,d.getD i []=r:=⟨_,rfl⟩
   have htk:d.take (i+1)=d.take i++[r]:=by rw [List.take_succ_eq_append_getElem hlt,← hri];simp [hlt]
   rw [hri] at e2 hrm
   have hr8:=(hd8.out r hrm).1
   have bad:ve r=true→K (.tup [.str [],.int .i64 5]) L:=fun e=>by
     have h':=h.out
     rw [if_pos (show pI d=true from List.any_eq_true.2 ⟨r,hrm,e⟩)] at h'
     exact h'
   replace bad:=hid bad
   replace htk:=hid htk
   clear hri hrm
   refine wk ?_
   refine ax (fun n T' L'=>∃ (k:Nat) (c':Int) (Z:List Blk),n=r.length - k∧k≤r.length∧X.length≤Z.length∧Hid (ve (r.take k)=false∧c'=c+k)∧T'=[(24,.int .i64 (k:Int)),(23,.int .i64 r.length),(22,ao r),(18,.int .i64 (i:Int)),(17,.int .i64 d.length),(16,.sl (d.map ao) d.length cap),(5,.int .i64 c'),(0,.sl (d.map ao) d.length cap)]∧L'=L++Z) (CutS (b:=by simp)) ⟨0,c,X,rfl,Nat.zero_le _,Nat.le_refl _,hid ⟨rfl,by omega⟩,rfl,rfl⟩ ?_
   rintro _ _ _ ⟨k,c',Z,rfl,hk,hXZ,hJ,rfl,rfl⟩
   replace hXZ:=hid hXZ
   by_cases hkl:k<r.length
   · have g3:(k:Int)<(r.length:Int):=by omega
     have g4:IntKind.i64.wrap ((k:Int)+1)=(k:Int)+1:=ah (by omega) (by omega)
     have g5:IntKind.i64.wrap (c'+1)=c'+1:=by
       obtain ⟨_,z1,z2⟩:=hI.out
       have:=hJ.out.2
       exact ah (by omega) (by omega)
     have e3:=dQ hkl
     have e4:k * 2+2≤(aL r).length:=by rw [bt];omega
     obtain ⟨⟨ty,va⟩,ha⟩:∃ a,r.getD k ([],[])=a:=⟨_,rfl⟩
     have ham:(ty,va)∈r:=by rw [← ha];simp [hkl]
     have htk2:r.take (k+1)=r.take k++[(ty,va)]:=by rw [List.take_succ_eq_append_getElem hkl,← ha];simp [hkl]
     rw [ha] at e3
     simp only [lF] at e3
     have JI:4096<va.length→ve r=true:=fun e=>List.any_eq_true.2 ⟨_,ham,by simpa using e⟩
     replace JI:=hid JI
     replace htk2:=hid htk2
     clear ha ham
     by_cases hlv:(4096:Int)<(va.length:Int)
     · have h':=hid (bad.out (JI.out (by omega)))
       refine wk ?_
       exact ac rfl h'.out
     · refine wk ?_
       refine ay _ _ _ (by omega) (CutL (b:=?_)) ⟨k+1,c'+1,_,rfl,hkl,?_,hid ⟨?_,by have:=hJ.out.2;omega⟩,rfl,rfl⟩
       · have:=hXZ.out;simp;omega
       · have:=hXZ.out;simp;omega
       · rw [htk2.out,ve,List.any_append,show (r.take k).any _=ve (r.take k) from rfl,hJ.out.1]
         simp;omega
   · have hke:k=r.length:=by omega
     subst hke
     have g3:¬ (r.length:Int)<(r.length:Int):=by omega
     have hlr:=hJ.out.1
     rw [List.take_length] at hlr
     replace hlr:=hid hlr
     refine wk ?_
     refine ay _ _ _ (by omega) (CutL (b:=by simp)) ⟨i+1,c',_,rfl,hlt,hid ⟨?_,?_,?_⟩,rfl,rfl⟩
     · rw [htk.out,pI,List.any_append,show (d.take i).any _=pI (d.take i) from rfl,hI.out.1]
       simp [hlr.out]
     · obtain ⟨_,z1,z2⟩:=hI.out
       have:=hJ.out.2;omega
     · obtain ⟨_,z1,z2⟩:=hI.out
       have:=hJ.out.2;omega
 · have hke:i=d.length:=by omega
   subst hke
   have g1:¬ (d.length:Int)<(d.length:Int):=by omega
   have hld:=hI.out.1
   rw [List.take_length] at hld
   have h':=h.out
   rw [if_neg (by rw [hld];simp)] at h'
   have hv:∀ r∈d,∀ a∈r,a.2.length≤4096:=fun r hr a ha=>by
     have h1:=List.any_eq_false.1 hld r hr
     have h1':ve r=false:=by simpa using h1
     unfold ve at h1'
     have h2:=List.any_eq_false.1 h1' a ha
     simpa using h2
   have hrl:∀ r∈d,(bL false r).length≤200000:=fun r hr=>xV (hd8.out r hr).1 (hd8.out r hr).2 (hv r hr)
   have htl:=xQ (by omega) hrl
   replace h':=hid h'
   clear hld
   replace hv:=hid hv
   replace hrl:=hid hrl
   refine wk ?_
   refine LH (by omega) (fun r hr=>⟨by have:=(hd8.out r hr).1;omega,fun a ha=>⟨by have:=(hd8.out r hr).2 a ha;omega,by have:=hv.out r hr a ha;omega⟩⟩) (fun r hr=>by have:=hrl.out r hr;omega) (by omega) ?_
   by_cases hlg:4096<(aK false d).length
   · have k1:(4096:Int)<((aK false d).length:Int):=by omega
     have h2:=h'.out
     rw [if_pos hlg] at h2
     replace h2:=hid h2
     clear hlg
     refine sk ?_
     refine wk ?_
     exact ac rfl h2.out
   · have k1:¬ (4096:Int)<((aK false d).length:Int):=by omega
     have h2:=h'.out
     rw [if_neg hlg] at h2
     replace h2:=hid h2
     clear hlg
     refine sk ?_
     refine wk ?_
     exact ac rfl h2.out
theorem Ds {d:List Rdn} (h:(prS d).2=0):d.length≤32∧∀ r∈d,r.length≤8∧∀ a∈r,a.1.length≤32∧a.2.length≤4096:=by
 unfold prS at h
 split at h
 · rename_i hc;exact absurd h hc
 · rename_i hc
   split at h
   · cases h
   · rename_i hl
     have h0:fz 0 d=0:=by simpa using hc
     obtain ⟨h1,h2⟩:=C5 d 0 h0 (by omega)
     have hld:pI d=false:=by simpa using hl
     refine ⟨by omega,fun r hr=>⟨(h2 r hr).1,fun a ha=>⟨(h2 r hr).2 a ha,?_⟩⟩⟩
     have k1:=List.any_eq_false.1 hld r hr
     have k1':ve r=false:=by simpa using k1
     unfold ve at k1'
     have k2:=List.any_eq_false.1 k1' a ha
     simpa using k2
theorem zJ {d:List Rdn} {cap:Option Nat} (hn:d.length≤1100000) (hr:∀ r∈d,r.length≤1100000) (h:K (Fu (zI d)) L) :
   ab Tryz.prog 46 [.sl (d.map ao) d.length cap] L K:=by
 unfold zI Fu at h
 refine aa FZ (by simp [zX]) ?_
 simp only [zX,am]
 refine wk ?_
 refine pW hn hr ?_
 unfold Fu
 obtain ⟨⟨ps,pe⟩,hp⟩:∃ p,prS d=p:=⟨_,rfl⟩
 rw [hp] at h ⊢
 simp only at h ⊢
 by_cases h0:pe=0
 · subst h0
   obtain ⟨q1,q2⟩:=Ds (by rw [hp])
   rw [if_neg (by simp)] at h
   have hrl:∀ r∈d,(bL true r).length≤200000:=fun r hr=>xV (q2 r hr).1 (fun a ha=>((q2 r hr).2 a ha).1) (fun a ha=>((q2 r hr).2 a ha).2)
   have htl:=xQ (by omega) hrl
   replace h:=hid h
   replace q2:=hid q2
   replace hrl:=hid hrl
   clear hp hr
   refine sk ?_
   refine wk ?_
   refine Ip (by omega) (fun r hr=>⟨by have:=(q2.out r hr).1;omega,fun a ha=>⟨by have:=((q2.out r hr).2 a ha).1;omega,by have:=((q2.out r hr).2 a ha).2;omega⟩⟩) (fun r hr=>by have:=hrl.out r hr;omega) (by omega) ?_
   refine sk ?_
   refine wk ?_
   exact ak h.out
 · rw [if_pos h0] at h
   replace h:=hid h
   clear hp hr
   refine sk ?_
   refine wk ?_
   exact ak h.out
end Go.Proofs.YtdhjplmjpjfjnaaGreat.Av
