/- Joined texts of the walk, made small by a program. -/
import Derived.Test.YtolfghcbbpcciaaGreatDoorGP4
import Derived.WalkKit
import Derived.ProofKit
import Derived.OpenShut
import Derived.JoinedCond
import Derived.Test.YtolfghcbbpcciaaGreatDoorGP5
import Derived.Test.YtolfghcbbpcciaaGreatDoorRows
import Derived.KernelRfl
import Derived.Test.YtolfghcbbpcciaaGreatDoorGQ4
import Derived.Lib.ItoaNum
import Derived.Lib.ParseIntB
import Derived.Test.YtolfghcbbpcciaaGreatDoorGS1
import Derived.Test.YtolfghcbbpcciaaGreatDoorGO1
import Derived.Test.YtolfghcbbpcciaaGreatDoorGA1
import Derived.Test.YtolfghcbbpcciaaGreatDoorGE1
import Derived.Test.YtolfghcbbpcciaaGreatDoorGE4
import Derived.Test.YtolfghcbbpcciaaGreatDoorGQ3
import Derived.Shelf.Strings.Builder1
import Derived.Shelf.Strings.Builder2
import Derived.Shelf.Strings.OnBuilder
import Derived.Shelf.Small.Bits
import Derived.Shelf.Small.Strs
import Derived.Shelf.Strconv.Itoa0
import Derived.Shelf.Strconv.Itoa1
import Derived.Shelf.LaysM
import Derived.Shelf.Strconv.Itoa2
import Derived.Shelf.Strconv.Itoa3
import Derived.Shelf.Strconv.Itoa4
import Derived.Shelf.Strconv.ParseIntEmpty
import Derived.Shelf.Strconv.Clone
import Derived.Shelf.Strconv.SyntaxError
import Derived.Shelf.LaysC
import Derived.Shelf.Strconv.ToError
import Derived.Shelf.Strconv.Lower
import Derived.Shelf.Strconv.ParseUint10
import Derived.Shelf.Strconv.ParseUint10Empty
import Derived.Shelf.Strconv.ParseUint10Any
import Derived.Shelf.Strconv.ParseInt10
import Derived.Shelf.Strconv.RangeError
import Derived.Shelf.Strconv.ToErrorRange
import Derived.Shelf.Strconv.ParseUintEmpty
import Derived.Shelf.Strconv.ParseUint10b64
import Derived.Shelf.Strconv.ParseUint10b32
import Derived.Shelf.Strconv.ParseUint10b16
import Derived.Shelf.Strconv.ParseUint10b8
import Derived.Shelf.Strconv.ParseUint10At
import Derived.Shelf.Strconv.ParseInt10At64
import Derived.Shelf.Strconv.ParseInt10At32
import Derived.Shelf.Strconv.ParseInt10At16
import Derived.Shelf.Strconv.ParseInt10At8
import Derived.Shelf.Strconv.ParseInt10All
import Derived.Shelf.Strconv.ParseIntPublic10
import Derived.Shelf.Strconv.ErrVarParseInt
import Derived.Shelf.Strings.Search1
import Derived.Shelf.Strings.Search2
import Derived.Shelf.Strings.Cut
import Derived.Shelf.Strings.Shaped
import Derived.Shelf.Sort.Plain
import Derived.Shelf.GgClosure.StringsIndexFunc
import Derived.Ground.GgwProg
import Derived.Shelf.GgClosure.StringsIndexFuncTop
import Derived.Shelf.GgClosure.StringsRunes
import Derived.Shelf.Slices.In.SortNone
import Derived.Ground.SlgmProg
import Derived.Shelf.SortM.Plain
import Derived.Shelf.SortM.SortNone
import Derived.Test.YtolfghcbbpcciaaGreatDoorProg
import Derived.Test.YtolfghcbbpcciaaGreatDoorGE5
import Derived.Test.YtolfghcbbpcciaaGreatDoorGQ1
import Derived.Test.YtolfghcbbpcciaaGreatDoorGE2
import Derived.Test.YtolfghcbbpcciaaGreatDoorGE3
import Derived.Test.YtolfghcbbpcciaaGreatDoorGQ5
import Derived.Test.YtolfghcbbpcciaaGreatDoorGQ2
import Derived.Test.YtolfghcbbpcciaaGreatDoorGQ6
set_option linter.unusedSimpArgs false
set_option linter.unusedVariables false
namespace Go.Proofs.YtolfghcbbpcciaaGreatDoor.Av
open Go Go.ChangeShapes Go.WideShapes Go.ChangeAt Go.RowKit
variable {L:List Blk} {K:AV→List Blk→Prop}
theorem Pv {P:Program} {t:TypeId} {k:IntKind} (ht:P.underlying t=some (.int k)):Rd P t (fun n:Int=>[.int k n]) (fun n=>k.min≤n∧n≤k.max):=fun H enc w fuel cs x hx=>by
 obtain ⟨n,rfl,_,hw⟩:=DataW.trod_int ht hx
 simp only [Lit.wf,Bool.and_eq_true,decide_eq_true_eq] at hw
 exact ⟨n,hw,by simp [VRL,VR]⟩
theorem SV {P:Program} {t e:TypeId} {X:Type} {ec:X→List AV} {ok:X→Prop} (ht:P.underlying t=some (.slice e)) (he:Rd P e ec ok) (hz':decide (0<P.cellsOf e)=true) :
   Rd P t (fun l:List X=>[.sl (l.flatMap ec) l.length none]) (fun l=>l.length≤maxLen∧∀ y∈l,ok y):=fun H enc w fuel cs x hx=>by
 have hz:0<P.cellsOf e:=of_decide_eq_true hz'
 rcases DataW.trod_slice ht hx with ⟨rfl,_⟩|⟨a,len,cap,elems,rest,n,_,rfl,_,_,hlc,hcap,hel,hget,hsp,_⟩
 · exact ⟨[],⟨by simp,by simp⟩,by simp only [VRL,VR];exact ⟨_,_,rfl,⟨none,0,rfl,Nat.le_refl _,by simp,.inl ⟨rfl,rfl,rfl⟩⟩,rfl⟩⟩
 have hspot:cap≠0→a.spot=none:=fun hc=>by
   have first:∀ r:Option (DataW H×List MemPlace),r≠none→(w.cells? 0 (a.add (0 * P.cellsOf e)) (P.cellsOf e)).bind (DataW.trod enc P w 0 (fun _=>true) true n e)=r→a.spot=none:=fun r hr h1=>by
     obtain ⟨q,rfl⟩:=Option.ne_none_iff_exists'.1 hr
     rw [Option.bind_eq_some_iff] at h1
     obtain ⟨cs',h2,_⟩:=h1
     obtain ⟨h6,h7⟩:=pY h2
     have h8:=h7 0 hz
     obtain ⟨v,hv⟩:∃ v,cs'[0]?=some v:=⟨cs'[0]'(by omega),List.getElem?_eq_getElem _⟩
     rw [hv] at h8
     have:=Nd h8
     simpa [Addr.add] using this
   by_cases hl:len=0
   · obtain ⟨r1,r2⟩:=hsp rfl
     exact first rest[0]? (by rw [List.getElem?_eq_getElem (by omega)];simp) (by simpa [hl] using r2 0 (by omega))
   · exact first elems[0]? (by rw [List.getElem?_eq_getElem (by omega)];simp) (hget 0 (by omega))
 have each:∀ i,i<len→∃ y,ok y∧(ec y).length=P.cellsOf e∧a.spot=none∧VRC (ib w) (ec y) a.block (a.off+i * P.cellsOf e):=fun i hi=>by
   have h1:=hget i hi
   obtain ⟨q,hq⟩:∃ q,elems[i]?=some q:=⟨elems[i]'(by omega),List.getElem?_eq_getElem _⟩
   rw [hq,Option.bind_eq_some_iff] at h1
   obtain ⟨cs',h2,h3⟩:=h1
   obtain ⟨y,h4,h5⟩:=he H enc w n cs' q h3
   obtain ⟨h6,h7⟩:=pY h2
   have hl:=h5.length
   have hsp:a.spot=none:=hspot (by omega)
   refine ⟨y,h4,by omega,hsp,VRC.of_get fun j u hu=>?_⟩
   obtain ⟨v,h8,h9⟩:=h5.get hu
   refine ⟨v,?_,h9⟩
   have hj:j<P.cellsOf e:=by
     have:=(List.getElem?_eq_some_iff.1 hu).1
     omega
   have h10:=h7 j hj
   rw [h8] at h10
   rw [← h10]
   have hadd:∀ k,a.add k=⟨a.block,a.off+k,none⟩:=fun k=>by
     obtain ⟨b,o,s⟩:=a
     simp only at hsp;subst hsp
     exact Addr.add_mk b o k
   rw [hadd,Addr.add_mk]
   rfl
 obtain ⟨ys,h1,h2⟩:=IK _ len each
 refine ⟨ys,⟨by omega,fun y hy=>?_⟩,?_⟩
 · obtain ⟨i,hi⟩:=List.getElem?_of_mem hy
   exact (h2 i y hi).1
 · simp only [VRL]
   refine ⟨_,[],rfl,?_,rfl⟩
   simp only [VR]
   refine ⟨_,_,by rw [h1],by omega,by simp,?_⟩
   by_cases hc:cap=0
   · have:ys=[]:=by
       have:ys.length=0:=by omega
       simpa using this
     subst this
     exact .inl ⟨rfl,hc,rfl⟩
   · refine .inr ⟨a.block,a.off,?_,Mi fun i y hy=>⟨(h2 i y hy).2.1,(h2 i y hy).2.2.2⟩⟩
     have hs:a.spot=none:=hspot hc
     cases a;simp only at hs ⊢;rw [hs]
theorem Rv {P:Program} {t e:TypeId} {X:Type} {a:X→AV} {ok:X→Prop} (ht:P.underlying t=some (.slice e)) (he:Rd P e (fun y=>[a y]) ok) (hz:decide (0<P.cellsOf e)=true) :
   Rd P t (fun l:List X=>[.sl (l.map a) l.length none]) (fun l=>l.length≤maxLen∧∀ y∈l,ok y) :=
 Rd.map (SV ht he hz) fun l h=>⟨l,h,by rw [List.map_eq_flatMap]⟩
def RdF (P:Program) (N o:Nat) (fs:List Field) {X:Type} (ec:X→List AV) (ok:X→Prop):Prop :=
 ∀ (H:Type) (enc:TypeId×Value→H) (w:World) (n:Nat) (cs:List Value),cs.length=N →
   (∀ f∈fs,∃ x,DataW.trod enc P w 0 (fun _=>true) true n f.type ((cs.drop f.offset).take (P.cellsOf f.type))=some x)→∃ y,ok y∧VRL (ib w) (ec y) (cs.drop o)
theorem U4 {P:Program} {N o:Nat} (h:o=N):RdF P N o [] (fun _:Unit=>[]) (fun _=>True):=fun H enc w n cs hl _ =>
 ⟨(),trivial,by simp [VRL,h,← hl]⟩
theorem KZ {P:Program} {N o sz:Nat} {f:Field} {fs:List Field} {X Y:Type} {ec:X→List AV} {ok:X→Prop} {ec':Y→List AV} {ok':Y→Prop} (hf:f.offset=o) (hz:P.cellsOf f.type=sz) (h:Rd P f.type ec ok) (r:RdF P N (o+sz) fs ec' ok') :
   RdF P N o (f::fs) (fun y:X×Y=>ec y.1++ec' y.2) (fun y=>ok y.1∧ok' y.2):=fun H enc w n cs hl hx=>by
 obtain ⟨x,h1⟩:=hx f (by simp)
 obtain ⟨y,h2,h3⟩:=h H enc w n _ x h1
 obtain ⟨z,h4,h5⟩:=r H enc w n cs hl fun g hg=>hx g (by simp [hg])
 refine ⟨(y,z),⟨h2,h4⟩,?_⟩
 have:cs.drop o=(cs.drop f.offset).take (P.cellsOf f.type)++cs.drop (o+sz):=by
   rw [hf,hz,← List.drop_drop,List.take_append_drop]
 rw [this]
 exact h3.append h5
theorem Ru {P:Program} {t:TypeId} {fs:Array Field} {X:Type} {ec:X→List AV} {ok:X→Prop} {N:Nat} (ht:P.underlying t=some (.struct fs)) (hN:P.cellsOf t=N) (r:RdF P N 0 fs.toList ec ok):Rd P t ec ok:=fun H enc w fuel cs x hx=>by
 subst hN
 obtain ⟨xs,n,_,_,hl,hlen,hf⟩:=DataW.trod_struct ht hx
 obtain ⟨y,h1,h2⟩:=r H enc w n cs hl fun f hfm=>by
   obtain ⟨i,hi⟩:=List.getElem?_of_mem hfm
   have hi':fs[i]?=some f:=by simpa using hi
   rw [hf i f hi']
   have:i<xs.length:=by
     rw [hlen]
     have:=(List.getElem?_eq_some_iff.1 hi).1
     simpa using this
   exact ⟨xs[i],List.getElem?_eq_getElem this⟩
 exact ⟨y,h1,by simpa using h2⟩
open Go Go.ChangeShapes Go.WideShapes Go.ChangeAt
set_option maxHeartbeats 8000000
set_option maxRecDepth 100000
theorem SU {P:Program} {t:TypeId} {ts:List TypeId} {X Y:Type} {ec:X→List AV} {ok:X→Prop} {ec':Y→List AV} {ok':Y→Prop} (hg:fv P t=some true) (h:RdZ P t ec ok) (r:Qj P ts ec' ok') :
   Qj P (t::ts) (fun y:X×Y=>.agg (ec y.1)::ec' y.2) (fun y=>ok y.1∧ok' y.2):=fun H enc w base vs ds ps hok hx hwt=>by
 obtain ⟨v,vs',d,ds',p,q,rfl,rfl,rfl,h1,h2⟩:=trodAll_cons hx
 obtain ⟨fuel,h1⟩:=h1
 obtain ⟨y,h3,h4⟩:=h H enc w fuel _ _ h1 (fun n hn=>hwt n (by rw [DataW.weightsEach];exact List.mem_append_left _ hn))
 obtain ⟨z,h5,h6⟩:=r H enc w base vs' ds' q (fun j t v a b=>hok (j+1) t v a b) h2 (fun n hn=>hwt n (by rw [DataW.weightsEach];exact List.mem_append_right _ hn))
 refine ⟨(y,z),⟨h3,h5⟩,?_⟩
 have hv:=hok 0 t v rfl rfl
 unfold fv at hg
 have:∃ cs,v=.agg cs:=by
   unfold Value.okWide at hv
   split at hg
   all_goals rename_i hu;rw [hu] at hv
   · obtain ⟨cs,h,_⟩:=hv;exact ⟨cs,h⟩
   · obtain ⟨cs,h,_⟩:=hv;exact ⟨cs,h⟩
   · cases hg
   · cases hg
 obtain ⟨cs,rfl⟩:=this
 simp only [VRL]
 refine ⟨_,vs',rfl,?_,h6⟩
 simp only [VR]
 exact ⟨cs.toList,rfl,by simpa [Value.cells] using h4⟩
end Go.Proofs.YtolfghcbbpcciaaGreatDoor.Av
set_option maxRecDepth 100000
namespace Go.Proofs.YtolfghcbbpcciaaGreatDoor.Av
open Go
variable {L:List Blk} {K:AV→List Blk→Prop}
def iz:LSO:=[A6 1 0,Ah 2]
def iy:LSO:=[Au 6 3 1,Al 7 13 6,Ax 8 7,Aa 9 8,.grp none 9 false
 [AP 10 9 0 1,AB 11 9 1 10,AY 12 9 11,A3 13 9 12 100]
 14 (tm 13)]
def ix:LSO:=[Bb 15 6,Aa 2 15]
def iw:LSO:=[Bb 17 8,Au 18 3 1,Al 19 15 18,o1 20 (.call 14 [(tm 17),(.av (.sl [] 0 (some 0))),(tm 19)]),Aa 16 20,Ar 21 16,As 22 16,Aa 3 21,Aa 4 22]
def iu:LSO:=[Aa 23 4,A7 24 23 0]
def ir:LSO:=[Ah 2]
def iq:LSO:=[Aa 25 3,Al 26 11 25,Bk 5,An 3 5 26]
def io:LSO:=[Bb 27 6,Aa 28 27,.grp none 28 true
 [B8 29 28 3 5,A5 30 28 10 29,B8 31 28 3 1,A5 32 28 10 31,BA 33 28 9 30 32]
 34 (tm 33),Aa 35 34,.grp none 35 true
 [B8 36 35 3 5,A5 37 35 13 36]
 38 (tm 37),Aa 2 38]
def fK:ba:=⟨39,(.seq (.sreg iz [])
 (.seq (.seq (.sreg iy BY)
 (.cond (tm 14) (.seq (.sreg ix BV)
 .ret)
 .skip))
 (.seq (.sdreg iw [(.read 0 0),(.read 0 0),(.read 0 0),(.read 0 0),.pure,.pure,.pure,.pure] Co)
 (.seq (.seq (.sreg iu BV)
 (.cond (tm 24) (.seq (.sreg ir [])
 .ret)
 .skip))
 (.seq (.sreg iq BW)
 (.seq (.sdreg io [(.read 0 0),.pure,(.read 0 0),(.read 0 0),(.read 0 0)] BZ)
 .ret)))))),[(.tmp 2)]⟩
attribute [push_cast] iz iy ix iw iu ir iq io
theorem vn:bb Tryz.prog (fun _ _=>1) 4=some fK.raw:=by kernel_rfl
theorem OM {m n:Int} (hm:I64 m) (hn:I64 n) (h:Lib.itoa m=Lib.itoa n):m=n:=by
 have h1:=FQ hm
 rw [h,FQ hn] at h1
 cases h1;rfl
set_option maxHeartbeats 8000000
set_option maxRecDepth 100000
def gl (syn:Int):List (List UInt8)→List (List UInt8)→List (List UInt8)×Int
 | l,[]=>(l,0)
 | l,v::vs=>match bX syn v with
   | none=>([],21)
   | some n=>if inM syn l n=false then ([],16) else gl syn (l.filter fun x=>decide (cJ syn x≠n)) vs
abbrev Mdf:=Int×List UInt8×List (List UInt8)
def Do (ts:List Typ) (l:List Atr) (m:Mdf):List Atr×Int :=
 if m.1<0∨2<m.1 then ([],2) else match gU ts m.2.1 with
   | none=>([],17)
   | some ty=>if m.1=1 then
       (if m.2.2 = [] ∧ bm l m.2.1 = [] then ([], 16)
        else if (gl ty.2.1 (bm l m.2.1) m.2.2).2≠0 then ([],(gl ty.2.1 (bm l m.2.1) m.2.2).2)
        else (dN ty.1 (if m.2.2=[] then [] else (gl ty.2.1 (bm l m.2.1) m.2.2).1) (if m.2.2=[] then true else (gl ty.2.1 (bm l m.2.1) m.2.2).1.isEmpty) l,0))
     else if m.1=0∧m.2.2=[] then ([],2)
     else if (cf ty.2.1 ty.2.2.1 (if m.1=2 then [] else bm l m.2.1) m.2.2).2≠0 then ([],(cf ty.2.1 ty.2.2.1 (if m.1=2 then [] else bm l m.2.1) m.2.2).2)
     else (dN ty.1 (cf ty.2.1 ty.2.2.1 (if m.1=2 then [] else bm l m.2.1) m.2.2).1 (cf ty.2.1 ty.2.2.1 (if m.1=2 then [] else bm l m.2.1) m.2.2).1.isEmpty l,0)
def Ji (ts:List Typ):List Atr→List Mdf→List Atr×Int
 | l,[]=>(l,0)
 | l,m::ms=>if (Do ts l m).2≠0 then ([],(Do ts l m).2) else Ji ts (Do ts l m).1 ms
section
variable {α:Type} (key:α→List UInt8)
end
variable {L:List Blk} {K:AV→List Blk→Prop}
set_option maxHeartbeats 8000000
set_option maxRecDepth 100000
theorem MJ (n:List UInt8):∀ l:List Atr,dN n [] true l=l.filter fun a=>decide (ak a.1≠ak n)
 | []=>rfl
 | a::t=>by
   rw [dN,if_neg (by simp),Bool.true_or,MJ n t]
   by_cases h:ak a.1=ak n
   · rw [if_neg (fun e=>e h.symm),List.filter_cons_of_neg (by simp [h])];rfl
   · rw [if_pos (fun e=>h e.symm),List.filter_cons_of_pos (by simp [h])];rfl
theorem O4 {syn:Int}:∀ {vs l:List (List UInt8)},InV syn l→(gl syn l vs).2=0→InV syn (gl syn l vs).1∧(gl syn l vs).1.length≤l.length
 | [],l,h,_=>⟨h,Nat.le_refl _⟩
 | v::vs,l,h,h0=>by
   rw [gl] at h0 ⊢
   rcases hv:bX syn v with _|n
   · rw [hv] at h0;cases h0
   · rw [hv] at h0
     simp only at h0 ⊢
     split
     · rename_i hc;rw [if_pos hc] at h0;cases h0
     · rename_i hc
       rw [if_neg hc] at h0
       obtain ⟨h1,h2⟩:=O4 (l:=l.filter fun x=>decide (cJ syn x≠n)) ⟨h.1.filter _,fun x hx=>h.2 x (List.mem_filter.1 hx).1⟩ h0
       exact ⟨h1,Nat.le_trans h2 (List.length_filter_le _ _)⟩
theorem QO {ts:List Typ} {l:List Atr} (n:List UInt8) (h:InA ts l):InA ts (dN n [] true l):=by
 rw [MJ]
 exact ⟨h.1.filter _,fun a ha=>h.2 a (List.mem_filter.1 ha).1⟩
theorem N7 {ts:List Typ} {l:List Atr} {n:List UInt8} {ty:Typ} (h:InA ts l) (ht:gU ts n=some ty) (hs:ty.2.2.1=true):(bm l n).length≤1:=by
 rw [Kt n l h.1]
 rcases hg:l[fm du l (ak n)]? with _|a
 · simp
 · simp only
   split
   · rename_i he
     obtain ⟨ty',h1,_,_,_,h5⟩:=h.2 a (List.mem_of_getElem? hg)
     rw [C3 he,ht] at h1
     cases h1
     exact h5 hs
   · simp
theorem SX {ts:List Typ} {l:List Atr} {n:List UInt8} {ty:Typ} {vs:List (List UInt8)} (h:InA ts l) (ht:gU ts n=some ty) (hi:InV ty.2.1 vs) (h1:ty.2.2.1=true→vs.length≤1):InA ts (dN ty.1 vs vs.isEmpty l):=by
 rcases vs with _|⟨v,vs⟩
 · exact QO ty.1 h
 · exact Qu h (by rw [C3 (i7 ht).2];exact ht) rfl (by simp) hi h1
theorem Vb {ts:List Typ} {l:List Atr} {m:Mdf} (h:InA ts l) (h0:(Do ts l m).2=0):InA ts (Do ts l m).1:=by
 unfold Do at h0 ⊢
 split
 · rename_i hc;rw [if_pos hc] at h0;cases h0
 rename_i hc
 rw [if_neg hc] at h0
 rcases ht:gU ts m.2.1 with _|ty
 · rw [ht] at h0;cases h0
 rw [ht] at h0
 simp only at h0 ⊢
 have hval:=Qq h ht
 have hsin:=N7 h ht
 split
 · rename_i h1
   rw [if_pos h1] at h0
   split
   · rename_i hd;rw [if_pos hd] at h0;cases h0
   rename_i hd
   rw [if_neg hd] at h0
   split
   · rename_i hd2;rw [if_pos hd2] at h0;exact absurd h0 hd2
   rename_i hd2
   simp only [ne_eq,Decidable.not_not] at hd2
   obtain ⟨h3,h4⟩:=O4 hval hd2
   split
   · exact QO ty.1 h
   · exact SX h ht h3 (fun hs=>Nat.le_trans h4 (hsin hs))
 · rename_i h1
   rw [if_neg h1] at h0
   split
   · rename_i hd;rw [if_pos hd] at h0;cases h0
   rename_i hd
   rw [if_neg hd] at h0
   obtain ⟨was,hwas⟩:∃ w,(if m.1=2 then [] else bm l m.2.1)=w:=⟨_,rfl⟩
   have hw:InV ty.2.1 was:=by
     rw [← hwas]
     split
     · exact ⟨List.Pairwise.nil,fun v hv=>by cases hv⟩
     · exact hval
   rw [hwas] at h0 ⊢
   split
   · rename_i hd2;rw [if_pos hd2] at h0;exact absurd h0 hd2
   rename_i hd2
   simp only [ne_eq,Decidable.not_not] at hd2
   exact SX h ht (N0 hw hd2) (CS hd2)
theorem QW {ts:List Typ}:∀ {ms:List Mdf} {l:List Atr},InA ts l→(Ji ts l ms).2=0→InA ts (Ji ts l ms).1
 | [],l,h,_=>h
 | m::ms,l,h,h0=>by
   rw [Ji] at h0 ⊢
   split
   · rename_i hc;rw [if_pos hc] at h0;exact absurd h0 hc
   · rename_i hc
     rw [if_neg hc] at h0
     simp only [ne_eq,Decidable.not_not] at hc
     exact QW (Vb h hc) h0
end Go.Proofs.YtolfghcbbpcciaaGreatDoor.Av
set_option maxRecDepth 100000
namespace Go.Proofs.YtolfghcbbpcciaaGreatDoor.Av
open Go
variable {L:List Blk} {K:AV→List Blk→Prop}
def DG:LSO:=[A6 3 0,A6 5 2,Ai 6,Ab 7 0]
def DF:LSO:=[Ad 20 0 5,Ac 21 1 20,AK 22 21 0,Aa 23 22,.grp none 23 false
 [AP 24 23 0 5,AB 25 23 1 24,A3 26 23 25 2]
 27 (tm 26)]
def DE:LSO:=[Ai 6,Ab 7 2]
def DD:LSO:=[Ad 28 0 3,Ac 29 1 28,Ad 30 1 5,Ac 31 1 30,Ay 32 19 29 31,Aa 8 32]
def DC:LSO:=[Aa 33 8,AK 34 33 0]
def DB:LSO:=[Ai 6,Ab 7 17]
def DA:LSO:=[Ad 35 0 3,Ac 36 1 35,Aa 37 8,Ao 38 4 36 37,Au 39 4 38,o1 9 (.alloc [(.str []),(.int .i64 0),(.bool false),(.bool false)]),An 4 9 39]
def Dz:LSO:=[Aa 40 1,Ad 41 1 5,Ac 42 1 41,Ay 43 21 40 42,Aa 10 43]
def Dy:LSO:=[Ad 44 0 5,Ac 45 1 44,Aq 46 45 1]
def Dx:LSO:=[Ad 47 2 5,Ac 48 1 47,Ak 49 48,Aq 50 49 0,Aa 51 50,.grp none 51 true
 [Ae 52 51 10,Bg 53 51 52,Bd 54 51 53 0]
 55 (tm 54)]
def wI:LSO:=[Ai 6,Ab 7 16]
def wH:LSO:=[Ad 56 2 5,Ac 57 1 56,Ak 58 57,Ab 59 0]
def wG:LSO:=[Aj 60 59 58]
def wF:LSO:=[Ao 61 1 57 59,Ac 62 1 61,Aa 12 62]
def wE:LSO:=[Ad 64 1 9,Ac 65 1 64,Aa 66 12,Ay 67 38 65 66,Aa 63 67,Ar 68 63,As 69 63,Aa 13 68,Aa 14 69]
def wD:LSO:=[Aa 70 14,Ax 71 70]
def wC:LSO:=[Ai 6,Ab 7 21]
def wB:LSO:=[Ad 72 1 9,Ac 73 1 72,Aa 74 10,Aa 75 13,AM 76 39 73 74 75,Ax 77 76]
def wA:LSO:=[Ai 6,Ab 7 16]
def wz:LSO:=[Ai 15]
def wy:LSO:=[Aa 78 10,Ak 79 78,Ab 80 0]
def ww:LSO:=[Aj 81 80 79]
def wu:LSO:=[Ao 82 1 78 80,Ac 83 1 82,Aa 17 83]
def wt:LSO:=[Ad 84 1 9,Ac 85 1 84,Aa 86 17,Ay 87 47 85 86,Aa 88 13,Bv 89 87 88]
def wr:LSO:=[Aa 90 15,Aa 91 17,Bq 92 91,Bh 93 90 92,Aa 15 93]
def wq:LSO:=[Ag 94 80 1,Aa 80 94]
def wo:LSO:=[Aa 95 15,Aa 10 95]
def wn:LSO:=[Ag 96 59 1,Aa 59 96]
def wm:LSO:=[Ad 97 2 5,Ac 98 1 97,Ak 99 98,Aq 100 99 0]
def wl:LSO:=[Ai 10]
def wj:LSO:=[Aa 101 1,Ad 102 0 9,Ac 103 1 102,Aa 104 10,AM 105 22 101 103 104,Aa 6 105,Ab 7 0]
def wi:LSO:=[Ad 106 0 5,Ac 107 1 106,Aq 108 107 0,Aa 109 108,.grp none 109 true
 [Bi 110 109 2 5,AU 111 109 1 110,Bg 112 109 111,Bd 113 109 112 0]
 114 (tm 113)]
def wh:LSO:=[Ai 6,Ab 7 2]
def wg:LSO:=[Ad 115 0 5,Ac 116 1 115,Aq 117 116 2]
def wc:LSO:=[Ai 10]
def wb:LSO:=[Au 119 4 9,Aa 120 10,Ad 121 2 5,Ac 122 1 121,AM 123 20 119 120 122,Aa 118 123,Ar 124 118,As 125 118,Aa 18 124,Aa 19 125]
def wa:LSO:=[Aa 126 19,A7 127 126 0]
def v8:LSO:=[Aa 128 19,Ai 6,Aa 7 128]
def v7:LSO:=[Aa 129 1,Ad 130 0 9,Ac 131 1 130,Aa 132 18,AM 133 22 129 131 132,Aa 6 133,Ab 7 0]
def CJ:ba:=⟨134,(.seq (.sreg DG [])
 (.seq (.seq (.sreg DF BY)
 (.cond (tm 27) (.seq (.sreg DE [])
 .ret)
 .skip))
 (.seq (.sreg DD BZ)
 (.seq (.seq (.sreg DC BV)
 (.cond (tm 34) (.seq (.sreg DB [])
 .ret)
 .skip))
 (.seq (.sreg DA BZ)
 (.seq (.sreg Dz BY)
 (.seq (.seq (.sreg Dy BW)
 (.cond (tm 46) (.seq (.seq (.sreg Dx BZ)
 (.cond (tm 55) (.seq (.sreg wI [])
 .ret)
 .skip))
 (.seq (.seq (.sreg wH Cg)
 (.block 0 (.loop (.seq (.sreg wG [])
 (.seq (.cond (tm 60) .skip
 (.exit 0))
 (.seq (.block 1 (.seq (.sreg wF BW)
 (.seq (.sreg wE Co)
 (.seq (.seq (.sreg wD BV)
 (.cond (tm 71) (.seq (.sreg wC [])
 .ret)
 .skip))
 (.seq (.seq (.sreg wB BZ)
 (.cond (tm 77) (.seq (.sreg wA [])
 .ret)
 .skip))
 (.seq (.sreg wz [])
 (.seq (.seq (.sreg wy [])
 (.block 2 (.loop (.seq (.sreg ww [])
 (.seq (.cond (tm 81) .skip
 (.exit 2))
 (.seq (.block 3 (.seq (.sreg wu BW)
 (.seq (.sreg wt BZ)
 (.cond (tm 89) (.sreg wr BY)
 .skip))))
 (.sreg wq BV)))))))
 (.sreg wo BV))))))))
 (.sreg wn BV)))))))
 (.seq (.seq (.sreg wm BX)
 (.cond (tm 100) (.sreg wl [])
 .skip))
 (.seq (.sreg wj Cd)
 .ret))))
 .skip))
 (.seq (.seq (.sreg wi BY)
 (.cond (tm 114) (.seq (.sreg wh [])
 .ret)
 .skip))
 (.seq (.seq (.sreg wg BW)
 (.cond (tm 117) (.sreg wc [])
 .skip))
 (.seq (.sreg wb Cs)
 (.seq (.seq (.sreg wa BV)
 (.cond (tm 127) (.seq (.sreg v8 Ca)
 .ret)
 .skip))
 (.seq (.sreg v7 Cd)
 .ret)))))))))))),[(.tmp 6),(.tmp 7)]⟩
attribute [push_cast] DG DF DE DD DC DB DA Dz Dy Dx wI wH wG wF wE wD wC wB wA wz wy ww wu wt wr wq wo wn wm wl wj wi wh wg wc wb wa v8 v7
theorem LT:bb Tryz.prog (fun _ _=>1) 28=some CJ.raw:=by kernel_rfl
def rl:LSO:=[A6 3 0,Ai 6,Ab 7 0]
def rk:LSO:=[Aa 13 1,Al 14 27 13,Aa 8 14]
def rj:LSO:=[Aa 15 2,Ak 16 15,Ab 17 0]
def ri:LSO:=[Aj 18 17 16]
def rh:LSO:=[Ao 19 3 15 17,Au 20 3 19,Bt 10,An 3 10 20]
def rg:LSO:=[Au 22 2 3,Aa 23 8,Au 24 3 10,AM 25 28 22 23 24,Aa 21 25,Ar 26 21,As 27 21,Aa 11 26,Aa 12 27]
def rf:LSO:=[Aa 28 12,A7 29 28 0]
def re:LSO:=[Aa 30 12,Ai 6,Aa 7 30]
def rd:LSO:=[Aa 31 11,Aa 8 31]
def rb:LSO:=[Ag 32 17 1,Aa 17 32]
def mA:LSO:=[Aa 33 8,Aa 6 33,Ab 7 0]
def kV:ba:=⟨34,(.seq (.sreg rl [])
 (.seq (.sreg rk BW)
 (.seq (.seq (.sreg rj [])
 (.block 0 (.loop (.seq (.sreg ri [])
 (.seq (.cond (tm 18) .skip
 (.exit 0))
 (.seq (.block 1 (.seq (.sreg rh BW)
 (.seq (.sreg rg Co)
 (.seq (.seq (.sreg rf BV)
 (.cond (tm 29) (.seq (.sreg re Ca)
 .ret)
 .skip))
 (.sreg rd BV)))))
 (.sreg rb BV)))))))
 (.seq (.sreg mA Ca)
 .ret)))),[(.tmp 6),(.tmp 7)]⟩
attribute [push_cast] rl rk rj ri rh rg rf re rd rb mA
theorem I2:bb Tryz.prog (fun _ _=>1) 14=some kV.raw:=by kernel_rfl
end Go.Proofs.YtolfghcbbpcciaaGreatDoor.Av
set_option maxRecDepth 100000
namespace Go.Proofs.YtolfghcbbpcciaaGreatDoor.Av
open Go
variable {L:List Blk} {K:AV→List Blk→Prop}
def y5:LSO:=[Bt 4]
def y2:LSO:=[Aa 8 0,o1 9 (.build [(.int .i64 0),(.str []),(.sl [] 0 (some 0))] [(0,(1,(iv 2))),(1,(1,(tm 8)))]),Bt 5,An 3 5 9]
def y1:LSO:=[Aa 10 1,Ak 11 10,Ab 12 0]
def y0:LSO:=[Aj 13 12 11]
def yZ:LSO:=[Ao 14 1 10 12,Ac 15 1 14,Aa 7 15]
def yY:List (ad×Kd) :=
 [AI 16 2 5,AJ 17 1 16 0 0,A4 18 7,od 19 (.call 30 [(tm 18),(iv 10)]) (.read 0 0),BQ 20 19 0 0]
def tZ:List ad :=
 [⟨(some 21),(.app 1 1 16 [(.str [])] (tm 17) (tm 20)),none⟩,⟨(some 22),(.faddr 2 (tm 5)),none⟩,⟨none,(.store 1 (tm 22) (tm 21)),none⟩]
def yX:LSO:=[Ag 23 12 1,Aa 12 23]
def yW:LSO:=[Au 24 3 5,An 3 4 24]
def gp:ba:=⟨25,(.seq (.sreg y5 [])
 (.seq (.sreg y2 BW)
 (.seq (.seq (.sreg y1 [])
 (.block 0 (.loop (.seq (.sreg y0 [])
 (.seq (.cond (tm 13) .skip
 (.exit 0))
 (.seq (.block 1 (.seq (.sreg yZ BW)
 (.dregM yY tZ Ci)))
 (.sreg yX BV)))))))
 (.seq (.sreg yW [false])
 .ret)))),[(.cell true 3 4)]⟩
attribute [push_cast] y5 y2 y1 y0 yZ yY tZ yX yW
theorem vb:bb Tryz.prog (fun _ _=>1) 29=some gp.raw:=by kernel_rfl
def uE:LSO:=[A6 1 0,Ai 2]
def uD:LSO:=[o1 8 (.call 29 [(.av (.str [112,119,100,70,97,105,108,117,114,101])),(.av (.sl [] 0 (some 0)))]),Bt 3,An 3 3 8,Ab 4 0]
def uC:LSO:=[Ad 9 0 1,Ac 10 1 9,Ak 11 10,Ab 12 0]
def uB:LSO:=[Aj 13 12 11]
def uA:LSO:=[Aa 14 12,Ao 15 1 10 12,Ac 16 1 15,Aa 5 14,Aa 6 16]
def uz:LSO:=[Aa 17 4,Ag 18 17 1,Aa 4 18]
def uy:LSO:=[Aa 19 5,Aq 20 19 0,Aa 21 20,.grp none 21 false
 [AP 22 21 0 1,AB 23 21 1 22,Af 24 21 5,B5 25 21 24 1,og 26 21 false (.iaddr 1 (tm 23) (tm 25)),AB 27 21 1 26,Af 28 21 6,BE 29 21 27 28]
 30 (tm 29)]
def ux:LSO:=[Ab 4 0]
def uw:List (ad×Kd) :=
 [AI 31 2 3,AJ 32 1 31 0 0,A4 33 6,od 34 (.call 30 [(tm 33),(iv 10)]) (.read 0 0),od 35 (.bin .add (tm 34) (.av (.str [46]))) .pure,A4 36 4,Bp 37 31 36 0 0,B7 38 35 37,
 BQ 39 38 0 0]
def o5:List ad :=
 [⟨(some 40),(.app 1 1 16 [(.str [])] (tm 32) (tm 39)),none⟩,⟨(some 41),(.faddr 2 (tm 3)),none⟩,⟨none,(.store 1 (tm 41) (tm 40)),none⟩]
def uv:LSO:=[Ag 42 12 1,Aa 12 42]
def o9:LSO:=[o1 43 (.call 29 [(.av (.str [112,119,100,76,111,99,107,101,100])),(.av (.sl [] 0 (some 0)))]),Bt 7,An 3 7 43]
def o8:LSO:=[Ad 44 1 1,Ac 45 1 44,A7 46 45 (-1)]
def o7:LSO:=[Ad 47 1 1,Ac 48 1 47,Bu 49 48,o1 50 (.call 29 [(.av (.str [112,119,100,76,111,99,107,101,100])),(tm 49)]),An 3 7 50]
def o6:LSO:=[Ad 51 2 1,Ac 52 1 51,Bu 53 52,o1 54 (.call 29 [(.av (.str [112,119,100,67,104,97,110,103,101,100])),(tm 53)]),Au 55 3 3,Au 56 3 7,
 o1 57 (.bslice false 3 3 [(.int .i64 0),(.str []),(.sl [] 0 (some 0)),(.int .i64 0),(.str []),(.sl [] 0 (some 0)),(.int .i64 0),(.str []),(.sl [] 0 (some 0))] [(0,(3,(tm 54))),(3,(3,(tm 55))),(6,(3,(tm 56)))]),
 Aa 2 57]
def lm:ba:=⟨58,(.seq (.sreg uE [])
 (.seq (.sreg uD Ca)
 (.seq (.seq (.sreg uC Cg)
 (.block 0 (.loop (.seq (.sreg uB [])
 (.seq (.cond (tm 13) .skip
 (.exit 0))
 (.seq (.block 1 (.seq (.sreg uA Cc)
 (.seq (.seq (.sreg uz BW)
 (.seq (.sreg uy BX)
 (.cond (tm 30) (.sreg ux [])
 .skip)))
 (.dregM uw o5 [false,false,false,false,false,false,false,false,false,false,false]))))
 (.sreg uv BV)))))))
 (.seq (.sreg o9 BV)
 (.seq (.seq (.sreg o8 BW)
 (.cond (tm 46) (.sreg o7 [false,false,false,false])
 .skip))
 (.seq (.sdreg o6 [.pure,(.read 0 0),(.read 0 0),(.read 0 0),(.read 0 0),(.read 0 0)] Ce)
 .ret)))))),[(.tmp 2)]⟩
attribute [push_cast] uE uD uC uB uA uz uy ux uw o5 uv o9 o8 o7 o6
theorem Jc:bb Tryz.prog (fun _ _=>1) 15=some lm.raw:=by kernel_rfl
theorem LR (fs:List Int) (i:Nat):cnt fs i≤i:=by
 have:=List.length_filter_le (fun x=>decide (x=fs.getD i 0)) (fs.take i)
 simp only [cnt,List.length_take] at this ⊢;omega
theorem O9 (fs:List Int):cnt fs 0=0:=by simp [cnt]
theorem vq {fs:List Int} {i:Nat} (h:i<fs.length):fs.take (i+1)=fs.take i++[fs.getD i 0]:=by
 rw [List.take_succ_eq_append_getElem h];simp [h]
theorem TZ {fs:List Int} {i:Nat} (h:i<fs.length) (e:fs.getD i 0=fs.getD (i+1) 0):cnt fs (i+1)=cnt fs i+1:=by
 simp only [cnt,← e]
 rw [vq h,List.filter_append]
 simp
theorem T6 {fs:List Int} {i:Nat} (hp:fs.Pairwise (·≤·)) (h:i+1<fs.length) (e:fs.getD i 0≠fs.getD (i+1) 0):cnt fs (i+1)=0:=by
 simp only [cnt]
 rw [List.length_eq_zero_iff,List.filter_eq_nil_iff]
 intro x hx
 obtain ⟨j,hj,rfl⟩:=List.getElem_of_mem hx
 simp only [List.length_take] at hj
 simp only [List.getElem_take,decide_eq_true_eq]
 have h1:fs[i]'(by omega)≤fs[i+1]:=List.pairwise_iff_getElem.1 hp i (i+1) (by omega) h (by omega)
 have h2:fs[j]'(by omega)≤fs[i]'(by omega):=by
   rcases Nat.lt_or_ge j i with hji|hji
   · exact List.pairwise_iff_getElem.1 hp j i (by omega) (by omega) hji
   · have:j=i:=by omega
     subst this;exact Int.le_refl _
 have e1:fs.getD i 0=fs[i]'(by omega):=by simp [show i<fs.length by omega]
 have e2:fs.getD (i+1) 0=fs[i+1]:=by simp [h]
 rw [e1,e2] at e
 rw [e2];omega
def fI (fs:List Int) (i:Nat):List UInt8:=Lib.itoa (fs.getD i 0)++[46]++Lib.itoa (cnt fs i)
def cq (fs:List Int) (k:Nat):List (List UInt8):=(List.range k).map (fI fs)
theorem Mq (fs:List Int) (k:Nat):cq fs (k+1)=cq fs k++[fI fs k]:=by simp [cq,List.range_succ]
theorem fH (fs:List Int) (k:Nat):(cq fs k).length=k:=by simp [cq]
def CH (fs:List Int) (f:Int) (k:Nat):Nat:=((fs.take k).filter (fun x=>decide (x=f))).length
theorem Qc {fs:List Int} {f:Int} {k:Nat} (h:k<fs.length):CH fs f (k+1)=if fs.getD k 0=f then CH fs f k+1 else CH fs f k:=by
 simp only [CH]
 rw [vq h,List.filter_append]
 have e2:fs.getD k 0=fs[k]?.getD 0:=by simp
 split<;>rename_i e<;>rw [e2] at e ⊢<;>simp [e]
theorem jy {n:Int} (h0:0≤n) (h1:n≤9223372036854775807):(Lib.itoa n).length≤20:=by
 have e:Lib.itoa n=Lib.decDigits n.toNat:=by simp only [Lib.itoa];rw [if_neg (by omega)]
 rw [e,Lib.decDigits_length]
 have:∀ (k u:Nat),u<10 ^ (k+1)→Lib.nDigits u≤k+1:=by
   intro k
   induction k with
   | zero=>intro u hu;rw [Lib.nDigits_small (by omega)];omega
   | succ k ih =>
     intro u hu
     rw [Lib.nDigits]
     split
     · omega
     · have:=ih (u / 10) (by rw [Nat.pow_succ] at hu;omega)
       omega
 exact this 19 n.toNat (by omega)
end Go.Proofs.YtolfghcbbpcciaaGreatDoor.Av
namespace Go.Proofs
open Go.Shelf
def Tryz.laysM171_ren:Go.Shelf.Ren:=⟨fun|171=>31|243=>49|246=>48|283=>67|284=>68|285=>69|286=>70|129=>100|317=>101|318=>102|319=>103|320=>104|337=>132|338=>133|n=>n,fun|3=>3|9=>9|2=>2|4=>4|171=>108|0=>0|53=>109|37=>96|5=>5|173=>112|212=>140|51=>137|20=>20|213=>141|46=>92|232=>188|233=>189|n=>n,fun|17=>0|18=>7|19=>8|n=>n⟩
theorem Tryz.laysM171:Go.Proofs.LaysM.n171 Tryz.prog Tryz.laysM171_ren:={
 mixed:=by kernel_rfl
 f129:=Tryz.func100.trans (congrArg some (by kernel_rfl))
 f171:=Tryz.func31.trans (congrArg some (by kernel_rfl))
 f243:=Tryz.func49.trans (congrArg some (by kernel_rfl))
 f246:=Tryz.func48.trans (congrArg some (by kernel_rfl))
 f283:=Tryz.func67.trans (congrArg some (by kernel_rfl))
 f284:=Tryz.func68.trans (congrArg some (by kernel_rfl))
 f285:=Tryz.func69.trans (congrArg some (by kernel_rfl))
 f286:=Tryz.func70.trans (congrArg some (by kernel_rfl))
 f317:=Tryz.func101.trans (congrArg some (by kernel_rfl))
 f318:=Tryz.func102.trans (congrArg some (by kernel_rfl))
 f319:=Tryz.func103.trans (congrArg some (by kernel_rfl))
 f320:=Tryz.func104.trans (congrArg some (by kernel_rfl))
 f337:=Tryz.func132.trans (congrArg some (by kernel_rfl))
 f338:=Tryz.func133.trans (congrArg some (by kernel_rfl))
 t0:=Tryz.underlying0
 a0:=Tryz.isAgg0
 z0:=Tryz.sizeOf0
 v0:=Tryz.zeroValue0
 t2:=Tryz.underlying2
 a2:=Tryz.isAgg2
 z2:=Tryz.sizeOf2
 v2:=Tryz.zeroValue2
 t3:=Tryz.underlying3
 a3:=Tryz.isAgg3
 z3:=Tryz.sizeOf3
 v3:=Tryz.zeroValue3
 t4:=Tryz.underlying4
 a4:=Tryz.isAgg4
 z4:=Tryz.sizeOf4
 v4:=Tryz.zeroValue4
 t5:=Tryz.underlying5
 a5:=Tryz.isAgg5
 z5:=Tryz.sizeOf5
 v5:=Tryz.zeroValue5
 t9:=Tryz.underlying9
 a9:=Tryz.isAgg9
 z9:=Tryz.sizeOf9
 v9:=Tryz.zeroValue9
 t20:=Tryz.underlying20
 a20:=Tryz.isAgg20
 z20:=Tryz.sizeOf20
 v20:=Tryz.zeroValue20
 t37:=Tryz.underlying96
 a37:=Tryz.isAgg96
 z37:=Tryz.sizeOf96
 v37:=Tryz.zeroValue96
 t46:=Tryz.underlying92
 a46:=Tryz.isAgg92
 z46:=Tryz.sizeOf92
 v46:=Tryz.zeroValue92
 t51:=Tryz.underlying137
 a51:=Tryz.isAgg137
 z51:=Tryz.sizeOf137
 v51:=Tryz.zeroValue137
 t53:=Tryz.underlying109
 a53:=Tryz.isAgg109
 z53:=Tryz.sizeOf109
 v53:=Tryz.zeroValue109
 t171:=Tryz.underlying108
 a171:=Tryz.isAgg108
 z171:=Tryz.sizeOf108
 v171:=Tryz.zeroValue108
 t173:=Tryz.underlying112
 a173:=Tryz.isAgg112
 z173:=Tryz.sizeOf112
 v173:=Tryz.zeroValue112
 t212:=Tryz.underlying140
 a212:=Tryz.isAgg140
 z212:=Tryz.sizeOf140
 v212:=Tryz.zeroValue140
 t213:=Tryz.underlying141
 a213:=Tryz.isAgg141
 z213:=Tryz.sizeOf141
 t232:=Tryz.underlying188
 a232:=Tryz.isAgg188
 z232:=Tryz.sizeOf188
 v232:=Tryz.zeroValue188
 t233:=Tryz.underlying189
 a233:=Tryz.isAgg189
 z233:=Tryz.sizeOf189
 v233:=Tryz.zeroValue189
 g17:=by kernel_rfl
 g18:=by kernel_rfl
 g19:=by kernel_rfl
 i0:=by kernel_rfl
 i2:=by kernel_rfl
 i3:=by kernel_rfl
 i4:=by kernel_rfl
 i5:=by kernel_rfl
 i9:=by kernel_rfl
 i20:=by kernel_rfl
 i37:=by kernel_rfl
 i46:=by kernel_rfl
 i51:=by kernel_rfl
 i53:=by kernel_rfl
 i171:=by kernel_rfl
 i173:=by kernel_rfl
 i212:=by kernel_rfl
 i232:=by kernel_rfl
 i233:=by kernel_rfl
 m17:=by kernel_rfl
 m18:=by kernel_rfl
 m19:=by kernel_rfl }
open Go.RowKit Go.Sort Go.Lib in
theorem Tryz.strconv_Itoa (n:Int) (h0 : -9223372036854775808≤n) (h1:n≤9223372036854775807) (w:World) (htab:Lib.TabIs Tryz.prog w "internal/strconv.uint64pow10" .u64 Lib.pow10Tab) :
   Calls Tryz.prog 31 #[.int .i64 n] w fun e w'=>e=.returned (.string ⟨(Lib.itoa n).toArray⟩)∧∃ k os,w'=grow (w.drewN k) os:=Any.strconv_Itoa Tryz.laysM171 n h0 h1 w htab
end Go.Proofs
namespace Go.Proofs.YtolfghcbbpcciaaGreatDoor.Av
open Go
variable {L:List Blk} {K:AV→List Blk→Prop}
set_option maxHeartbeats 8000000
set_option maxRecDepth 100000
theorem iO {n:Int} (h0 : -9223372036854775808≤n) (h1:n≤9223372036854775807) (h:K (.str (Lib.itoa n)) L):ao Tryz.prog 31 [.int .i64 n] L K :=
 dd Tryz.func31 rfl (by kernel_rfl) (fun w0 S0 E w vs hR hv=>by
   simp only [VRL,VR] at hv
   obtain ⟨_,_,rfl,rfl,rfl⟩:=hv
   refine (Tryz.strconv_Itoa n h0 h1 w (hR.table MQ Oq (by simp [Lib.pow10Tab]))).mono fun e w' ⟨he,k,os,hw⟩=>⟨_,he,by simp [VR],by subst hw;exact Dv.of_grow w k os⟩) h
abbrev Sv (l:List (List UInt8)):List AV:=l.map AV.str
theorem Dd (l:List (List UInt8)):AV.frzL (l.map AV.str)=l.map AV.str:=by rw [AV.frzL_eq,List.map_map];rfl
theorem iN {name:List UInt8} {cap:Option Nat} (h:K (.agg [.int .i64 2,.str name,.sl [] 0 (some 0)]) L):ao Tryz.prog 29 [.str name,.sl [] 0 cap] L K:=by
 replace h:=hid h
 refine ag vb (by simp [gp]) ?_
 simp only [gp,aN]
 repeat' first
   | refine aT ?_
   | (first|refine aG (by kernel_rfl) ?_|refine ap (by kernel_rfl) ?_|refine aq ?_|refine aZ ?_|refine aO (fun _=>?_)|refine aj ?_|refine aK ?_)
     refine sm ?_
   | (first|refine aC (by kernel_rfl) ?_|refine aH ?_|refine aJ ?_|refine aU (ai ?_))
     refine sl ?_
   | exact aP
   | first|apply aQ|apply aD|apply aR|apply aE|apply aS|apply aF
   | refine aw ?_
   | first|refine ar rfl ?_|refine au rfl ?_|refine af rfl ?_ ?_|refine ay rfl (fun _=>?_) (fun _=>?_)|refine ax rfl (fun _=>?_) (fun _=>?_)
   | ((first|refine ae (fun _=>?_) (fun _=>?_)|refine ah (fun _=>?_) (fun _=>?_))<;>try refine sm ?_)
   | refine And.intro trivial ?_
   | refine And.intro (by omega) ?_
   | refine aA rfl (fun _=>?_) (fun _=>?_)
   | refine And.intro ?_ ?_
 refine aI (fun m T' L'=>T'=[(12,.int .i64 0),(11,.int .i64 0),(5,.ptr (L.length+1) 0),(4,.ptr L.length 0)]∧L'=L++[.cells [.int .i64 0,.str [],.sl [] 0 (some 0)],.cells [.int .i64 2,.str name,.sl [] 0 (some 0)]]) (n0:=0) (CutS (b:=by simp)) ⟨rfl,rfl⟩ ?_
 rintro _ _ _ ⟨rfl,rfl⟩
 repeat' first
   | refine aT ?_
   | (first|refine aG (by kernel_rfl) ?_|refine ap (by kernel_rfl) ?_|refine aq ?_|refine aZ ?_|refine aO (fun _=>?_)|refine aj ?_|refine aK ?_)
     refine sm ?_
   | (first|refine aC (by kernel_rfl) ?_|refine aH ?_|refine aJ ?_|refine aU (ai ?_))
     refine sl ?_
   | exact aP
   | first|apply aQ|apply aD|apply aR|apply aE|apply aS|apply aF
   | refine aw ?_
   | first|refine ar rfl ?_|refine au rfl ?_|refine af rfl ?_ ?_|refine ay rfl (fun _=>?_) (fun _=>?_)|refine ax rfl (fun _=>?_) (fun _=>?_)
   | ((first|refine ae (fun _=>?_) (fun _=>?_)|refine ah (fun _=>?_) (fun _=>?_))<;>try refine sm ?_)
   | refine And.intro trivial ?_
   | refine And.intro (by omega) ?_
   | refine aA rfl (fun _=>?_) (fun _=>?_)
   | refine And.intro ?_ ?_
 refine aa ?_ h.out
 simp [AV.refs,AV.refsL]
theorem iM {name:List UInt8} {n:Int} {cap:Option Nat} (h0:0≤n) (h1:n≤9223372036854775807) (h:K (.agg [.int .i64 2,.str name,.sl [.str (Lib.itoa n)] 1 none]) L):ao Tryz.prog 29 [.str name,.sl [.int .i64 n] 1 cap] L K:=by
 replace h:=hid h
 refine ag vb (by simp [gp]) ?_
 simp only [gp,aN]
 repeat' first
   | refine aT ?_
   | (first|refine aG (by kernel_rfl) ?_|refine ap (by kernel_rfl) ?_|refine aq ?_|refine aZ ?_|refine aO (fun _=>?_)|refine aj ?_|refine aK ?_)
     refine sm ?_
   | (first|refine aC (by kernel_rfl) ?_|refine aH ?_|refine aJ ?_|refine aU (ai ?_))
     refine sl ?_
   | exact aP
   | first|apply aQ|apply aD|apply aR|apply aE|apply aS|apply aF
   | refine aw ?_
   | first|refine ar rfl ?_|refine au rfl ?_|refine af rfl ?_ ?_|refine ay rfl (fun _=>?_) (fun _=>?_)|refine ax rfl (fun _=>?_) (fun _=>?_)
   | ((first|refine ae (fun _=>?_) (fun _=>?_)|refine ah (fun _=>?_) (fun _=>?_))<;>try refine sm ?_)
   | refine And.intro trivial ?_
   | refine And.intro (by omega) ?_
   | refine aA rfl (fun _=>?_) (fun _=>?_)
   | refine And.intro ?_ ?_
 refine aI (fun m T' L'=>(m=1∧T'=[(12,.int .i64 0),(11,.int .i64 1),(10,.sl [.int .i64 n] 1 cap),(5,.ptr (L.length+1) 0),(4,.ptr L.length 0)]∧L'=L++[.cells [.int .i64 0,.str [],.sl [] 0 (some 0)],.cells [.int .i64 2,.str name,.sl [] 0 (some 0)]]) ∨
   ∃ i,m=0∧T'=[(12,.int .i64 1),(11,.int .i64 1),(10,.sl [.int .i64 n] 1 cap),(5,.ptr (L.length+1) 0),(4,.ptr L.length 0)]∧L'=L++[.cells [.int .i64 0,.str [],.sl [] 0 (some 0)],.cells [.int .i64 2,.str name,.gsl [.str (Lib.itoa n)] 1 i 1],.spare 1 1]) (n0:=1) (CutS (b:=by simp)) (.inl ⟨rfl,rfl,rfl⟩) ?_
 rintro _ _ _ (⟨rfl,rfl,rfl⟩|⟨i,rfl,rfl,rfl⟩)
 · have hl:=jy h0 h1
   repeat' first
     | refine aT ?_
     | (first|refine aG (by kernel_rfl) ?_|refine ap (by kernel_rfl) ?_|refine aq ?_|refine aZ ?_|refine aO (fun _=>?_)|refine aj ?_|refine aK ?_|refine iI ⟨by omega,h1⟩ ?_|refine aL (iI ⟨by omega,h1⟩ ⟨rfl,rfl⟩) (iI ⟨by omega,h1⟩ ⟨rfl,rfl⟩) ?_|refine aB (iI ⟨by omega,h1⟩ ⟨rfl,rfl⟩) ?_)
       refine sm ?_
     | (first|refine aC (by kernel_rfl) ?_|refine aH ?_|refine aJ ?_|refine aU (ai ?_))
       refine sl ?_
     | exact aP
     | first|apply aQ|apply aD|apply aR|apply aE|apply aS|apply aF
     | refine aw ?_
     | first|refine ar rfl ?_|refine au rfl ?_|refine af rfl ?_ ?_|refine ay rfl (fun _=>?_) (fun _=>?_)|refine ax rfl (fun _=>?_) (fun _=>?_)
     | ((first|refine ae (fun _=>?_) (fun _=>?_)|refine ah (fun _=>?_) (fun _=>?_))<;>try refine sm ?_)
     | refine And.intro trivial ?_
     | refine And.intro (by omega) ?_
     | refine aA rfl (fun _=>?_) (fun _=>?_)
     | refine And.intro ?_ ?_
   exact az 0 _ _ (by omega) (CutS (b:=by simp)) (.inr ⟨_,rfl,rfl,rfl⟩)
 · repeat' first
     | refine aT ?_
     | (first|refine aG (by kernel_rfl) ?_|refine ap (by kernel_rfl) ?_|refine aq ?_|refine aZ ?_|refine aO (fun _=>?_)|refine aj ?_|refine aK ?_)
       refine sm ?_
     | (first|refine aC (by kernel_rfl) ?_|refine aH ?_|refine aJ ?_|refine aU (ai ?_))
       refine sl ?_
     | exact aP
     | first|apply aQ|apply aD|apply aR|apply aE|apply aS|apply aF
     | refine aw ?_
     | first|refine ar rfl ?_|refine au rfl ?_|refine af rfl ?_ ?_|refine ay rfl (fun _=>?_) (fun _=>?_)|refine ax rfl (fun _=>?_) (fun _=>?_)
     | ((first|refine ae (fun _=>?_) (fun _=>?_)|refine ah (fun _=>?_) (fun _=>?_))<;>try refine sm ?_)
     | refine And.intro trivial ?_
     | refine And.intro (by omega) ?_
     | refine aA rfl (fun _=>?_) (fun _=>?_)
     | refine And.intro ?_ ?_
   refine aX (aa ?_ ?_)
   · simp [AV.frz,AV.frzL,AV.refs,AV.refsL]
   · simpa [AV.frz,AV.frzL] using h.out
def Th (name:List UInt8) (vs:List (List UInt8)):List AV:=[.int .i64 2,.str name,.sl (Sv vs) vs.length none]
def bF:List UInt8:=[112,119,100,67,104,97,110,103,101,100]
def bM:List UInt8:=[112,119,100,70,97,105,108,117,114,101]
def cK:List UInt8:=[112,119,100,76,111,99,107,101,100]
def fc (lk:Int):List (List UInt8):=if lk=-1 then [] else [Lib.itoa lk]
def OF (fs:List Int) (lk ch:Int):List AV:=Th bF [Lib.itoa ch]++Th bM (cq fs fs.length)++Th cK (fc lk)
theorem Wb {fs:List Int} {cap:Option Nat} {lk ch:Int} (hp:fs.Pairwise (·≤·)) (hl:fs.length≤100) (hb:∀ f∈fs,0≤f∧f≤9223372036854775807) (hlk : -1≤lk∧lk≤9223372036854775807) (hch:0≤ch∧ch≤9223372036854775807) (h:K (.sl (OF fs lk ch) 3 none) L) :
   ao Tryz.prog 15 [.agg [.sl (bc fs) fs.length cap,.int .i64 lk,.int .i64 ch]] L K:=by
 replace h:=hid h
 refine ag Jc (by simp [lm]) ?_
 simp only [lm,aN]
 repeat' first
   | refine aT ?_
   | (first|refine aG (by kernel_rfl) ?_|refine ap (by kernel_rfl) ?_|refine aq ?_|refine aZ ?_|refine aO (fun _=>?_)|refine aj ?_|refine aK ?_|refine iN ?_|refine aL (iN ⟨rfl,rfl⟩) (iN ⟨rfl,rfl⟩) ?_|refine aB (iN ⟨rfl,rfl⟩) ?_)
     refine sm ?_
   | (first|refine aC (by kernel_rfl) ?_|refine aH ?_|refine aJ ?_|refine aU (ai ?_))
     refine sl ?_
   | exact aP
   | first|apply aQ|apply aD|apply aR|apply aE|apply aS|apply aF
   | refine aw ?_
   | first|refine ar rfl ?_|refine au rfl ?_|refine af rfl ?_ ?_|refine ay rfl (fun _=>?_) (fun _=>?_)|refine ax rfl (fun _=>?_) (fun _=>?_)
   | ((first|refine ae (fun _=>?_) (fun _=>?_)|refine ah (fun _=>?_) (fun _=>?_))<;>try refine sm ?_)
   | refine And.intro trivial ?_
   | refine And.intro (by omega) ?_
   | refine aA rfl (fun _=>?_) (fun _=>?_)
   | refine And.intro ?_ ?_
 refine Mm (L.length+1) 2 1 (by rw [cj];rfl) rfl rfl ?_
 rw [Gy]
 simp only [List.set_cons_succ,List.set_cons_zero,List.append_assoc,List.cons_append,List.nil_append,List.length_append,List.length_cons,List.length_nil,Nat.reduceAdd]
 refine aI (fun n T' L'=>∃ (k:Nat) (c:Int),n=fs.length - k∧k≤fs.length∧(c=if k=0 then 0 else (cnt fs (k - 1):Int))∧T'=[(12,.int .i64 (k:Int)),(11,.int .i64 fs.length),(10,.sl (bc fs) fs.length cap),(4,.int .i64 c),(3,.ptr (L.length+1) 0),(2,.sl [] 0 (some 0)),(1,.ptr L.length 0)] ∧
   L'=L++[.cells [.sl (bc fs) fs.length cap,.int .i64 lk,.int .i64 ch],.cells [.int .i64 2,.str bM,.gsl (Sv (cq fs k)) k (L.length+2) 1],.spare k 1]) (CutS (b:=by simp)) ⟨0,0,rfl,Nat.zero_le _,rfl,rfl,rfl⟩ ?_
 rintro _ _ _ ⟨k,c,rfl,hk,hc,rfl,rfl⟩
 by_cases hlt:k<fs.length
 · have h1:(k:Int)<(fs.length:Int):=by omega
   have h2:IntKind.i64.wrap ((k:Int)+1)=(k:Int)+1:=ac (by omega) (by omega)
   have h4:(fs.map (AV.int .i64)).getD k .undef=.int .i64 (fs.getD k 0):=by simp [hlt]
   have hf:=hb (fs.getD k 0) (by rw [List.getD_eq_getElem?_getD,List.getElem?_eq_getElem hlt];exact List.getElem_mem _)
   have l1:=jy hf.1 hf.2
   have c1:=LR fs k
   have l2:=jy (n:=(cnt fs k:Int)) (by omega) (by omega)
   obtain ⟨f,hfe⟩:∃ f,fs.getD k 0=f:=⟨_,rfl⟩
   have hval:cq fs (k+1)=cq fs k++[Lib.itoa f++[46]++Lib.itoa (cnt fs k)]:=by rw [Mq,fI,hfe]
   by_cases hk0:k=0
   · subst hk0
     rw [hfe] at h4 hf l1
     have hw:IntKind.i64.wrap 1=1:=by decide
     have hc0:(cnt fs 0:Int)=0:=by rw [O9];rfl
     rw [hc0] at l2 hval
     replace h1:(0:Int)<(fs.length:Int):=by omega
     rw [if_pos rfl] at hc
     subst hc
     repeat' first
       | refine aT ?_
       | (first|refine aG (by kernel_rfl) ?_|refine ap (by kernel_rfl) ?_|refine aq ?_|refine aZ ?_|refine aO (fun _=>?_)|refine aj ?_|refine aK ?_|refine iI ⟨by omega,by omega⟩ ?_|refine iO (by omega) (by omega) ?_|refine aL (iI ⟨by omega,by omega⟩ ⟨rfl,rfl⟩) (iI ⟨by omega,by omega⟩ ⟨rfl,rfl⟩) ?_|refine aL (iO (by omega) (by omega) ⟨rfl,rfl⟩) (iO (by omega) (by omega) ⟨rfl,rfl⟩) ?_|refine aB (iI ⟨by omega,by omega⟩ ⟨rfl,rfl⟩) ?_|refine aB (iO (by omega) (by omega) ⟨rfl,rfl⟩) ?_)
         refine sm ?_
       | (first|refine aC (by kernel_rfl) ?_|refine aH ?_|refine aJ ?_|refine aU (ai ?_))
         refine sl ?_
       | exact aP
       | first|apply aQ|apply aD|apply aR|apply aE|apply aS|apply aF
       | refine aw ?_
       | first|refine ar rfl ?_|refine au rfl ?_|refine af rfl ?_ ?_|refine ay rfl (fun _=>?_) (fun _=>?_)|refine ax rfl (fun _=>?_) (fun _=>?_)
       | ((first|refine ae (fun _=>?_) (fun _=>?_)|refine ah (fun _=>?_) (fun _=>?_))<;>try refine sm ?_)
       | refine And.intro trivial ?_
       | refine And.intro (by omega) ?_
       | refine aA rfl (fun _=>?_) (fun _=>?_)
       | refine And.intro ?_ ?_
     refine az _ _ _ (by omega) (CutS (b:=by simp)) ⟨1,0,rfl,hlt,by simp [O9],rfl,?_⟩
     rw [hval]
     simp [Sv]
   · have h3:IntKind.i64.wrap ((k:Int) - 1)=(k:Int) - 1:=ac (by omega) (by omega)
     have h5:(fs.map (AV.int .i64)).getD (k - 1) .undef=.int .i64 (fs.getD (k - 1) 0):=by simp [show k - 1<fs.length by omega]
     have h6:((k:Int) - 1).toNat=k - 1:=by omega
     have c2:=LR fs (k - 1)
     have h7:IntKind.i64.wrap ((cnt fs (k - 1):Int)+1)=(cnt fs (k - 1):Int)+1:=ac (by omega) (by omega)
     have hk1:k - 1+1=k:=by omega
     have hki:(k:Int)≠0:=by omega
     obtain ⟨c0,hc0⟩:∃ c0,cnt fs (k - 1)=c0:=⟨_,rfl⟩
     have hsame:=TZ (fs:=fs) (i:=k - 1) (by omega)
     have hdiff:=T6 (fs:=fs) (i:=k - 1) hp (by omega)
     rw [hk1,hc0,hfe] at hsame
     rw [hk1,hfe] at hdiff
     rw [hc0] at h7 hc
     rw [if_neg hk0] at hc
     subst hc
     obtain ⟨g,hge⟩:∃ g,fs.getD (k - 1) 0=g:=⟨_,rfl⟩
     rw [hge] at h5 hsame hdiff
     rw [hfe] at h4 hf l1
     clear hge hfe
     by_cases he:g=f
     · have hcn:=hsame he
       rw [hcn] at hval l2 c1
       rw [show ((c0+1:Nat):Int)=(c0:Int)+1 by omega] at hval l2
       clear hsame hdiff
       subst he
       repeat' first
         | refine aT ?_
         | (first|refine aG (by kernel_rfl) ?_|refine ap (by kernel_rfl) ?_|refine aq ?_|refine aZ ?_|refine aO (fun _=>?_)|refine aj ?_|refine aK ?_|refine iI ⟨by omega,by omega⟩ ?_|refine iO (by omega) (by omega) ?_|refine aL (iI ⟨by omega,by omega⟩ ⟨rfl,rfl⟩) (iI ⟨by omega,by omega⟩ ⟨rfl,rfl⟩) ?_|refine aL (iO (by omega) (by omega) ⟨rfl,rfl⟩) (iO (by omega) (by omega) ⟨rfl,rfl⟩) ?_|refine aB (iI ⟨by omega,by omega⟩ ⟨rfl,rfl⟩) ?_|refine aB (iO (by omega) (by omega) ⟨rfl,rfl⟩) ?_)
           refine sm ?_
         | (first|refine aC (by kernel_rfl) ?_|refine aH ?_|refine aJ ?_|refine aU (ai ?_))
           refine sl ?_
         | exact aP
         | first|apply aQ|apply aD|apply aR|apply aE|apply aS|apply aF
         | refine aw ?_
         | first|refine ar rfl ?_|refine au rfl ?_|refine af rfl ?_ ?_|refine ay rfl (fun _=>?_) (fun _=>?_)|refine ax rfl (fun _=>?_) (fun _=>?_)
         | ((first|refine ae (fun _=>?_) (fun _=>?_)|refine ah (fun _=>?_) (fun _=>?_))<;>try refine sm ?_)
         | refine And.intro trivial ?_
         | refine And.intro (by omega) ?_
         | refine aA rfl (fun _=>?_) (fun _=>?_)
         | refine And.intro ?_ ?_
       all_goals first
         | omega
         | skip
       refine az _ _ _ (by omega) (CutS (b:=by simp)) ⟨k+1,_,rfl,hlt,by simp [hcn],rfl,?_⟩
       rw [hval]
       simp [Sv]
     · have hcn:=hdiff he
       have hc':((cnt fs k:Nat):Int)=0:=by rw [hcn];rfl
       rw [hc'] at hval l2
       clear hsame hdiff
       repeat' first
         | refine aT ?_
         | (first|refine aG (by kernel_rfl) ?_|refine ap (by kernel_rfl) ?_|refine aq ?_|refine aZ ?_|refine aO (fun _=>?_)|refine aj ?_|refine aK ?_|refine iI ⟨by omega,by omega⟩ ?_|refine iO (by omega) (by omega) ?_|refine aL (iI ⟨by omega,by omega⟩ ⟨rfl,rfl⟩) (iI ⟨by omega,by omega⟩ ⟨rfl,rfl⟩) ?_|refine aL (iO (by omega) (by omega) ⟨rfl,rfl⟩) (iO (by omega) (by omega) ⟨rfl,rfl⟩) ?_|refine aB (iI ⟨by omega,by omega⟩ ⟨rfl,rfl⟩) ?_|refine aB (iO (by omega) (by omega) ⟨rfl,rfl⟩) ?_)
           refine sm ?_
         | (first|refine aC (by kernel_rfl) ?_|refine aH ?_|refine aJ ?_|refine aU (ai ?_))
           refine sl ?_
         | exact aP
         | first|apply aQ|apply aD|apply aR|apply aE|apply aS|apply aF
         | refine aw ?_
         | first|refine ar rfl ?_|refine au rfl ?_|refine af rfl ?_ ?_|refine ay rfl (fun _=>?_) (fun _=>?_)|refine ax rfl (fun _=>?_) (fun _=>?_)
         | ((first|refine ae (fun _=>?_) (fun _=>?_)|refine ah (fun _=>?_) (fun _=>?_))<;>try refine sm ?_)
         | refine And.intro trivial ?_
         | refine And.intro (by omega) ?_
         | refine aA rfl (fun _=>?_) (fun _=>?_)
         | refine And.intro ?_ ?_
       all_goals first
         | omega
         | skip
       refine az _ _ _ (by omega) (CutS (b:=by simp)) ⟨k+1,_,rfl,hlt,by simp [hcn],rfl,?_⟩
       rw [hval]
       simp [Sv]
 · have hke:k=fs.length:=by omega
   subst hke
   have h1:¬ (fs.length:Int)<(fs.length:Int):=by omega
   by_cases hl1:lk=-1
   · subst hl1
     repeat' first
       | refine aT ?_
       | (first|refine aG (by kernel_rfl) ?_|refine ap (by kernel_rfl) ?_|refine aq ?_|refine aZ ?_|refine aO (fun _=>?_)|refine aj ?_|refine aK ?_|refine iN ?_|refine iM hch.1 hch.2 ?_|refine aL (iN ⟨rfl,rfl⟩) (iN ⟨rfl,rfl⟩) ?_|refine aL (iM hch.1 hch.2 ⟨rfl,rfl⟩) (iM hch.1 hch.2 ⟨rfl,rfl⟩) ?_|refine aB (iN ⟨rfl,rfl⟩) ?_|refine aB (iM hch.1 hch.2 ⟨rfl,rfl⟩) ?_)
         refine sm ?_
       | (first|refine aC (by kernel_rfl) ?_|refine aH ?_|refine aJ ?_|refine aU (ai ?_))
         refine sl ?_
       | exact aP
       | first|apply aQ|apply aD|apply aR|apply aE|apply aS|apply aF
       | refine aw ?_
       | first|refine ar rfl ?_|refine au rfl ?_|refine af rfl ?_ ?_|refine ay rfl (fun _=>?_) (fun _=>?_)|refine ax rfl (fun _=>?_) (fun _=>?_)
       | ((first|refine ae (fun _=>?_) (fun _=>?_)|refine ah (fun _=>?_) (fun _=>?_))<;>try refine sm ?_)
       | refine And.intro trivial ?_
       | refine And.intro (by omega) ?_
       | refine aA rfl (fun _=>?_) (fun _=>?_)
       | refine And.intro ?_ ?_
     refine aX (aa ?_ ?_)
     · simp [AV.frz,AV.frzL,AV.refs,AV.refsL,Dd,fM]
     · simpa [AV.frz,AV.frzL,OF,Th,fc,Dd,fH,bF,bM,cK] using h.out
   · repeat' first
       | refine aT ?_
       | (first|refine aG (by kernel_rfl) ?_|refine ap (by kernel_rfl) ?_|refine aq ?_|refine aZ ?_|refine aO (fun _=>?_)|refine aj ?_|refine aK ?_|refine iN ?_|refine iM hch.1 hch.2 ?_|refine iM (by omega) hlk.2 ?_|refine aL (iN ⟨rfl,rfl⟩) (iN ⟨rfl,rfl⟩) ?_|refine aL (iM hch.1 hch.2 ⟨rfl,rfl⟩) (iM hch.1 hch.2 ⟨rfl,rfl⟩) ?_|refine aL (iM (by omega) hlk.2 ⟨rfl,rfl⟩) (iM (by omega) hlk.2 ⟨rfl,rfl⟩) ?_|refine aB (iN ⟨rfl,rfl⟩) ?_|refine aB (iM hch.1 hch.2 ⟨rfl,rfl⟩) ?_|refine aB (iM (by omega) hlk.2 ⟨rfl,rfl⟩) ?_)
         refine sm ?_
       | (first|refine aC (by kernel_rfl) ?_|refine aH ?_|refine aJ ?_|refine aU (ai ?_))
         refine sl ?_
       | exact aP
       | first|apply aQ|apply aD|apply aR|apply aE|apply aS|apply aF
       | refine aw ?_
       | first|refine ar rfl ?_|refine au rfl ?_|refine af rfl ?_ ?_|refine ay rfl (fun _=>?_) (fun _=>?_)|refine ax rfl (fun _=>?_) (fun _=>?_)
       | ((first|refine ae (fun _=>?_) (fun _=>?_)|refine ah (fun _=>?_) (fun _=>?_))<;>try refine sm ?_)
       | refine And.intro trivial ?_
       | refine And.intro (by omega) ?_
       | refine aA rfl (fun _=>?_) (fun _=>?_)
       | refine And.intro ?_ ?_
     refine aX (aa ?_ ?_)
     · simp [AV.frz,AV.frzL,AV.refs,AV.refsL,Dd,fM]
     · simpa [AV.frz,AV.frzL,OF,Th,fc,hl1,Dd,fH,bF,bM,cK] using h.out
end Go.Proofs.YtolfghcbbpcciaaGreatDoor.Av
set_option maxRecDepth 100000
namespace Go.Proofs.YtolfghcbbpcciaaGreatDoor.Av
open Go
variable {L:List Blk} {K:AV→List Blk→Prop}
def xe:LSO:=[Ai 2]
def xd:LSO:=[Ai 3]
def xc:LSO:=[Aa 6 0,Ak 7 6,Ab 8 0]
def xb:LSO:=[Aj 9 8 7]
def xa:LSO:=[Ao 10 2 6 8,Au 11 2 10,Br 5,An 2 5 11]
def w9:List (ad×Kd) :=
 [A4 12 3,AI 13 0 5,AJ 14 1 13 0 1,od 15 (.bslice false 1 0 [] []) (.read 0 0),AI 16 1 5,AJ 17 1 16 0 0,od 18 (.app 0 1 16 [(.str [])] (tm 15) (tm 17)) .eff,
 od 19 (.build [(.str []),(.sl [] 0 (some 0))] [(0,(1,(tm 14))),(1,(1,(tm 18)))]) .pure,od 20 (.bslice false 2 1 [(.str []),(.sl [] 0 (some 0))] [(0,(2,(tm 19)))]) (.read 0 0)]
def qW:List ad :=
 [⟨(some 21),(.app 1 2 40 [(.str []),(.sl [] 0 (some 0))] (tm 12) (tm 20)),none⟩,⟨(some 3),(.mv (tm 21)),none⟩]
def w8:LSO:=[Ag 22 8 1,Aa 8 22]
def w7:LSO:=[Aa 23 3,Aa 2 23]
def qa:ba:=⟨24,(.seq (.sreg xe [])
 (.seq (.sreg xd [])
 (.seq (.seq (.sreg xc [])
 (.block 0 (.loop (.seq (.sreg xb [])
 (.seq (.cond (tm 9) .skip
 (.exit 0))
 (.seq (.block 1 (.seq (.sreg xa BW)
 (.dregM w9 qW Ct)))
 (.sreg w8 BV)))))))
 (.seq (.sreg w7 BV)
 .ret)))),[(.tmp 2)]⟩
attribute [push_cast] xe xd xc xb xa w9 qW w8 w7
theorem Ke:bb Tryz.prog (fun r i=>if r=5∧i=6 then 0 else 1) 27=some qa.raw:=by kernel_rfl
set_option maxHeartbeats 8000000
set_option maxRecDepth 100000
theorem UW {l:List Atr} {cap:Option Nat} (hl:l.length≤1100000) (hz:∀ a∈l,a.2.length≤1100000) (h:K (.sl (be l) l.length none) L) :
   ao Tryz.prog 27 [.sl (be l) l.length cap] L K:=by
 replace h:=hid h
 refine ag Ke (by simp [qa]) ?_
 simp only [qa,aN]
 refine wk ?_
 refine cM (l:=[]) (n:=0) 3 2 rfl (Nat.zero_mul 2).symm ?_
 refine aI (fun m T' L'=>∃ (k:Nat) (C:List AV) (X:List Blk),m=l.length - k∧k≤l.length∧C=be (l.take k)∧T'=[(8,.int .i64 (k:Int)),(7,.int .i64 l.length),(6,.sl (be l) l.length cap),(3,.gsl C k L.length 2)]∧L'=L++(.spare k 2::X)) (CutS (b:=by simp)) ⟨0,[],[],rfl,Nat.zero_le _,rfl,rfl,rfl⟩ ?_
 rintro _ _ _ ⟨k,C,X,rfl,hk,hC,rfl,rfl⟩
 by_cases hlt:k<l.length
 · have g1:(k:Int)<(l.length:Int):=by omega
   have g2:IntKind.i64.wrap ((k:Int)+1)=(k:Int)+1:=ac (by omega) (by omega)
   have e3:=kQ hlt
   have e4:k * 2+2≤(be l).length:=by rw [jL];omega
   obtain ⟨⟨nm,vs⟩,ha⟩:∃ a,l.getD k ([],[])=a:=⟨_,rfl⟩
   have htk:be (l.take (k+1))=be (l.take k)++[.str nm,.sl (vs.map AV.str) vs.length none]:=by
     rw [List.take_succ_eq_append_getElem hlt,Md,show l[k]=(nm,vs) by rw [← ha];simp [hlt]]
     rfl
   have hvs:=hz (nm,vs) (by rw [← ha];simp [hlt])
   simp only at hvs
   rw [ha] at e3
   simp only [atA] at e3
   have e0:AV.frzL (vs.map AV.str)=vs.map AV.str:=gj vs
   replace htk:=hid htk
   replace hC:=hid hC
   clear ha hz
   refine wk ?_
   exact az _ _ _ (by omega) (CutL (b:=by simp)) ⟨k+1,_,_,rfl,hlt,by rw [htk.out,hC.out],rfl,rfl⟩
 · have hke:k=l.length:=by omega
   subst hke
   have g1:¬ (l.length:Int)<(l.length:Int):=by omega
   rw [List.take_length] at hC
   subst hC
   have e0:=ee l
   refine wk ?_
   refine aX ?_
   simp only [AV.frz,e0]
   exact aa (by simp only [AV.refs,fq]) h.out
theorem Lj (syn:Int) (v:List UInt8):∀ l,(d9 syn v false l).Perm (v::l)
 | []=>by simp [d9]
 | x::t=>by
   rw [d9]
   by_cases hx:cJ syn v<cJ syn x
   · simp [hx,pP]
   · rw [if_neg (fun e=>hx e.2),decide_eq_false hx]
     exact ((Lj syn v t).cons x).trans (List.Perm.swap ..)
theorem Pf {syn:Int}:∀ (vs l:List (List UInt8)),(∀ v∈vs,(bX syn v).isSome=true)→((l++vs).map (cJ syn)).Nodup→∃ l',cf syn false l vs=(l',0)∧l'.Perm (l++vs)
 | [],l,_,_=>⟨l,by simp [cf],by simp⟩
 | v::vs,l,hn,hd=>by
   obtain ⟨n,e⟩:=Option.isSome_iff_exists.1 (hn v (by simp))
   have en:cJ syn v=n:=by simp [cJ,e]
   have hI:inM syn l n=false:=by
     rw [← en]
     simp only [inM,List.any_eq_false,decide_eq_true_eq]
     intro x hx hxe
     rw [List.map_append,List.nodup_append] at hd
     exact hd.2.2 _ (List.mem_map_of_mem hx) _ (List.mem_map_of_mem (by simp)) hxe
   have hp:(d9 syn v false l++vs).Perm (l++v::vs):=((Lj syn v l).append_right vs).trans List.perm_middle.symm
   obtain ⟨l',h1,h2⟩:=Pf vs (d9 syn v false l) (fun x hx=>hn x (by simp [hx])) ((hp.map _).nodup_iff.2 hd)
   refine ⟨l',?_,h2.trans hp⟩
   rw [cf]
   simp only [e,hI]
   exact h1
theorem Pe {syn:Int} {s:Bool} {v n:List UInt8} (h:bX syn v=some n):cf syn s [] [v]=([v],0):=by
 rw [cf]
 simp only [h]
 simp [inM,d9,cf]
theorem Tr {n:Int} (h:0≤n):Lib.itoa n=Lib.decDigits n.toNat:=by
 unfold Lib.itoa
 rw [if_neg (by omega)]
theorem CC {n:Int} (h:0≤n):∀ c∈Lib.itoa n,dv c=true:=by
 rw [Tr h]
 exact (KG n.toNat).2.1
theorem Io:∀ (a b:List UInt8),(∀ c∈a,dv c=true)→pX (a++46::b)=some (a,b)
 | [],b,_=>by simp [pX]
 | c::a,b,h=>by
   have hc:c≠46:=by
     intro e
     have:=h c (by simp)
     rw [e] at this
     exact absurd this (by decide)
   rw [List.cons_append,pX,if_neg hc,Io a b fun x hx=>h x (by simp [hx])]
theorem Da {g n:Int} (h0:0≤n) (h1:n≤g) (h2:n≤9223372036854775807):ju g (Lib.itoa n)=some n:=by
 have hi:I64 n:=⟨by omega,by omega⟩
 obtain ⟨e1,e2⟩:=Lh hi
 unfold ju
 have:=jy h0 h2
 rw [e2,if_pos ⟨by omega,e1,h0,h1⟩]
theorem UK {f c:Int} (h0:0≤f) (h1:f≤9007199254740991) (c0:0≤c) (c1:c≤99):tmM true (Lib.itoa f++[46]++Lib.itoa c)=some f:=by
 unfold tmM
 rw [if_pos rfl,List.append_assoc,List.singleton_append,Io _ _ (CC h0)]
 simp only
 rw [Da c0 c1 (by omega),if_pos (show (some c).isSome=true from rfl),Da h0 h1 (by omega)]
def plC (c:UInt8):Bool:=dv c || decide (c=46)
theorem S4 {v:List UInt8} (h:∀ c∈v,plC c=true):ak v=v:=by
 unfold ak
 conv=>rhs;rw [← List.map_id v]
 apply List.map_congr_left
 intro c hc
 have:=h c hc
 simp only [plC,dv,Bool.or_eq_true,Bool.and_eq_true,decide_eq_true_eq] at this
 rcases this with ⟨h1,h2⟩|rfl
 · rw [Lp (by omega)];rfl
 · rfl
theorem MR:∀ (v b:List UInt8),(∀ c∈v,plC c=true)→v.foldl cn b=b++v
 | [],b,_=>by simp
 | c::v,b,h=>by
   have hc:c≠32:=by
     intro e
     have:=h c (by simp)
     rw [e] at this
     exact absurd this (by decide)
   rw [List.foldl_cons,cn,if_neg (fun e=>hc e.1),MR v _ fun x hx=>h x (by simp [hx])]
   simp
theorem S3 {v:List UInt8} (h:∀ c∈v,plC c=true):dH v=v:=by
 unfold dH
 rw [S4 h,fN,MR v [] h,List.nil_append,lu,if_neg]
 intro e
 have:=List.mem_of_getLast? e
 exact absurd (h _ this) (by decide)
theorem U8 {v:List UInt8} (h:∀ c∈v,plC c=true):Gj v=true:=by
 simp only [Gj,List.all_eq_true,decide_eq_true_eq]
 intro c hc
 have:=h c hc
 simp only [plC,dv,Bool.or_eq_true,Bool.and_eq_true,decide_eq_true_eq] at this
 rcases this with ⟨h1,h2⟩|rfl
 · omega
 · decide
theorem Vo {f c:Int} (h0:0≤f) (c0:0≤c):∀ x∈Lib.itoa f++[46]++Lib.itoa c,plC x=true:=by
 intro x hx
 simp only [List.mem_append,List.mem_singleton] at hx
 rcases hx with (hx|rfl)|hx
 · simp [plC,CC h0 x hx]
 · rfl
 · simp [plC,CC c0 x hx]
theorem Qd (fs:List Int) (f:Int) {i j:Nat} (h:i≤j):CH fs f i≤CH fs f j:=by
 unfold CH
 exact ((List.take_prefix_take_left h).sublist.filter _).length_le
theorem IS {fs:List Int} {i:Nat} (hi:i<fs.length) (hl:fs.length≤100) (hb:∀ f∈fs,0≤f∧f≤9007199254740991):bX 3 (fI fs i)=some (fI fs i)∧tmM true (fI fs i)=some (fs.getD i 0):=by
 have hf:=hb (fs.getD i 0) (by rw [List.getD_eq_getElem?_getD,List.getElem?_eq_getElem hi];exact List.getElem_mem _)
 have hc:=LR fs i
 unfold fI
 have h1:=Vo (f:=fs.getD i 0) (c:=(cnt fs i:Nat)) hf.1 (by omega)
 refine ⟨?_,UK hf.1 hf.2 (by omega) (by omega)⟩
 have l1:=jy hf.1 (by omega)
 have l2:=jy (n:=(cnt fs i:Int)) (by omega) (by omega)
 unfold bX
 rw [if_neg (by simp only [List.length_append,List.length_singleton];omega)]
 unfold MX
 rw [if_neg (by omega),if_neg (by omega),if_pos rfl,U8 h1,if_pos rfl,S3 h1]
theorem TU {fs:List Int} {i j:Nat} (hij:i<j) (hj:j<fs.length) (hl:fs.length≤100) (hb:∀ f∈fs,0≤f∧f≤9007199254740991):fI fs i≠fI fs j:=by
 intro e
 have hfi:=hb (fs.getD i 0) (by rw [List.getD_eq_getElem?_getD,List.getElem?_eq_getElem (by omega)];exact List.getElem_mem _)
 have hfj:=hb (fs.getD j 0) (by rw [List.getD_eq_getElem?_getD,List.getElem?_eq_getElem hj];exact List.getElem_mem _)
 have e2:=congrArg pX e
 unfold fI at e2
 rw [List.append_assoc,List.append_assoc,List.singleton_append,List.singleton_append,Io _ _ (CC hfi.1),Io _ _ (CC hfj.1)] at e2
 have h1:Lib.itoa (fs.getD i 0)=Lib.itoa (fs.getD j 0):=by injection e2 with e2;exact congrArg Prod.fst e2
 have h2:Lib.itoa (cnt fs i)=Lib.itoa (cnt fs j):=by injection e2 with e2;exact congrArg Prod.snd e2
 have c1:=LR fs i
 have c2:=LR fs j
 have g1:=OM ⟨by omega,by omega⟩ ⟨by omega,by omega⟩ h1
 have g2:=OM (m:=(cnt fs i:Int)) (n:=(cnt fs j:Int)) ⟨by omega,by omega⟩ ⟨by omega,by omega⟩ h2
 have k1:CH fs (fs.getD i 0) (i+1)=CH fs (fs.getD i 0) i+1:=by rw [Qc (by omega),if_pos rfl]
 have k2:=Qd fs (fs.getD i 0) (show i+1≤j from hij)
 have k3:cnt fs i=CH fs (fs.getD i 0) i:=rfl
 have k4:cnt fs j=CH fs (fs.getD i 0) j:=by rw [g1];rfl
 omega
def Ll (fs:List Int) (lk ch:Int):List Mdf:=[(2,bF,[Lib.itoa ch]),(2,bM,cq fs fs.length),(2,cK,fc lk)]
theorem Lg {ts:List Typ} {l:List Atr} {n:List UInt8} {vs vs':List (List UInt8)} {ty:Typ} (ht:gU ts n=some ty) (ha:cf ty.2.1 ty.2.2.1 [] vs=(vs',0)):Do ts l (2,n,vs)=(dN ty.1 vs' vs'.isEmpty l,0):=by
 unfold Do
 rw [if_neg (by simp only;omega)]
 simp only [ht]
 rw [if_neg (by omega),if_neg (by simp)]
 simp only [if_true,ha]
 simp
theorem Wr {fs:List Int} {lk ch:Int} (h:fJ fs lk ch=true) (hp:fs.Pairwise (·≤·)) (hl:fs.length≤100) (hb:∀ f∈fs,0≤f∧f≤9007199254740991) (hlk:lk=-1∨(0≤lk∧lk≤9007199254740991)) (hch:0≤ch∧ch≤9007199254740991) :
   ∃ l,Ji bg [] (Ll fs lk ch)=(l,0)∧eE l=(fs,lk,ch)∧l.length≤3∧∀ a∈l,a.2.length≤100:=by
 have t1:gU bg bF=some (bF,4,true,true):=by decide
 have t2:gU bg bM=some (bM,3,false,true):=by decide
 have t3:gU bg cK=some (cK,4,true,true):=by decide
 have n4:∀ n:Int,0≤n→n≤9007199254740991→bX 4 (Lib.itoa n)=some (Lib.itoa n):=fun n h0 h1=>by
   have:=jy h0 (by omega)
   unfold bX MX
   rw [if_neg (by omega),if_neg (by omega),if_neg (by omega),if_neg (by omega),if_pos rfl,if_pos (Lh ⟨by omega,by omega⟩).1]
 obtain ⟨F,f1,f2⟩:∃ F,cf 3 false [] (cq fs fs.length)=(F,0)∧F.Perm ([]++cq fs fs.length):=by
   refine Pf _ _ ?_ ?_
   · intro v hv
     obtain ⟨i,hi,rfl⟩:=List.mem_map.1 hv
     rw [(IS (by simpa using hi) hl hb).1];rfl
   · rw [List.nil_append,show (cq fs fs.length).map (cJ 3)=cq fs fs.length by
       conv=>rhs;rw [← List.map_id (cq fs fs.length)]
       apply List.map_congr_left
       intro v hv
       obtain ⟨i,hi,rfl⟩:=List.mem_map.1 hv
       rw [cJ,(IS (by simpa using hi) hl hb).1];rfl]
     unfold cq
     rw [List.nodup_iff_pairwise_ne,List.pairwise_map]
     refine List.pairwise_lt_range.imp_of_mem ?_
     intro a b ha hb' hab
     exact TU hab (by simpa using hb') hl hb
 rw [List.nil_append] at f2
 obtain ⟨G,g1,g2⟩:∃ G,cf 4 true [] (fc lk)=(G,0)∧G=fc lk:=by
   unfold fc
   split
   · exact ⟨[],by simp [cf],rfl⟩
   · rename_i hne
     have hh:0≤lk∧lk≤9007199254740991:=by omega
     exact ⟨_,Pe (n4 lk hh.1 hh.2),rfl⟩
 have m1:=Lg (l:=[]) t1 (Pe (s:=true) (n4 ch hch.1 hch.2))
 have m2:=Lg (l:=[(bF,[Lib.itoa ch])]) t2 f1
 have hA:ce true F=fs:=by
   unfold ce
   refine (KQ hp ?_).symm
   refine List.Perm.symm ((f2.filterMap _).trans (List.Perm.of_eq ?_))
   unfold cq
   rw [List.filterMap_map]
   have key:∀ l:List Nat,(∀ i∈l,i<fs.length)→List.filterMap (tmM true ∘ fI fs) l=l.map fun i=>fs.getD i 0:=by
     intro l
     induction l with
     | nil=>intro _;rfl
     | cons i l ih =>
       intro hi
       rw [List.filterMap_cons_some (f:=tmM true ∘ fI fs) (b:=fs.getD i 0) (IS (hi i (by simp)) hl hb).2,ih fun j hj=>hi j (by simp [hj]),List.map_cons]
   rw [key _ fun i hi=>by simpa using hi]
   apply List.ext_getElem
   · simp
   · intro i h1 h2
     simp [h2]
 have hB:ce false [Lib.itoa ch]=[ch]:=by
   have:tmM false (Lib.itoa ch)=some ch:=by simp only [tmM];exact Da hch.1 hch.2 (by omega)
   simp [ce,this,il]
 have hC:(ce false (fc lk)).getLastD (-1)=lk:=by
   unfold fc
   split
   · rename_i e;rw [e];simp [ce,il]
   · have hh:0≤lk∧lk≤9007199254740991:=by omega
     have:tmM false (Lib.itoa lk)=some lk:=by simp only [tmM];exact Da hh.1 hh.2 (by omega)
     simp [ce,this,il]
 have o1:ak bF<ak bM:=by decide
 have o2:ak bM<ak cK:=by decide
 have o3:ak bF<ak cK:=by decide
 have q1:ak bM≠ak bF:=by decide
 have q2:ak cK≠ak bM:=by decide
 have q3:ak cK≠ak bF:=by decide
 have v1:ak bF=ak MY:=by decide
 have v2:ak bM=ak z8:=by decide
 have v3:ak cK=ak FR:=by decide
 have s1:dN bF [Lib.itoa ch] ([Lib.itoa ch]:List (List UInt8)).isEmpty []=[(bF,[Lib.itoa ch])]:=by simp [dN]
 have s2:dN bM F F.isEmpty [(bF,[Lib.itoa ch])]=(bF,[Lib.itoa ch])::(if F.isEmpty=true then [] else [(bM,F)]):=by
   simp [dN,o1,q1]
 have s3:dN cK G G.isEmpty ((bF,[Lib.itoa ch])::(if F.isEmpty=true then [] else [(bM,F)]))=(bF,[Lib.itoa ch])::((if F.isEmpty=true then [] else [(bM,F)])++(if G.isEmpty=true then [] else [(cK,G)])):=by
   rcases hF:F.isEmpty with _|_<;>simp [dN,o2,o3,q2,q3]
 have m3:=Lg (l:=(bF,[Lib.itoa ch])::(if F.isEmpty=true then [] else [(bM,F)])) t3 g1
 refine ⟨(bF,[Lib.itoa ch])::((if F.isEmpty=true then [] else [(bM,F)])++(if G.isEmpty=true then [] else [(cK,G)])),?_,?_,?_,?_⟩
 · unfold Ll
   rw [Ji,m1]
   simp only [ne_eq,not_true_eq_false,if_false]
   rw [s1,Ji,m2]
   simp only [ne_eq,not_true_eq_false,if_false]
   rw [s2,Ji,m3]
   simp only [ne_eq,not_true_eq_false,if_false]
   rw [s3,Ji]
 · have w1:bm ((bF,[Lib.itoa ch])::((if F.isEmpty=true then [] else [(bM,F)])++(if G.isEmpty=true then [] else [(cK,G)]))) MY=[Lib.itoa ch]:=by
     rw [bm,if_pos v1]
   have w2:bm ((bF,[Lib.itoa ch])::((if F.isEmpty=true then [] else [(bM,F)])++(if G.isEmpty=true then [] else [(cK,G)]))) z8=F:=by
     rw [bm,if_neg (by rw [← v2];exact q1.symm)]
     rcases hF:F.isEmpty with _|_
     · simp [bm,v2]
     · have:F=[]:=by simpa using hF
       subst this
       rcases hG:G.isEmpty with _|_
       · simp [bm,v3];intro e;rw [← v3,← v2] at e;exact absurd e q2
       · simp [bm]
   have w3:bm ((bF,[Lib.itoa ch])::((if F.isEmpty=true then [] else [(bM,F)])++(if G.isEmpty=true then [] else [(cK,G)]))) FR=G:=by
     rw [bm,if_neg (by rw [← v3];exact q3.symm)]
     have hgl:bm (if G.isEmpty=true then [] else [(cK,G)]) FR=G:=by
       rcases hG:G.isEmpty with _|_
       · simp [bm,v3]
       · have:G=[]:=by simpa using hG
         simp [bm,this]
     rcases hF:F.isEmpty with _|_
     · simp only [Bool.false_eq_true,if_false,List.singleton_append]
       rw [bm,if_neg (by rw [← v3];exact q2.symm)]
       exact hgl
     · simpa using hgl
   unfold eE
   rw [w1,w2,w3,g2,hA,hB,hC]
   simp [show fs.length - 100=0 by omega]
 · rcases F.isEmpty<;>rcases G.isEmpty<;>simp
 · have lF:F.length≤100:=by rw [f2.length_eq,fH];exact hl
   have lG:G.length≤100:=by rw [g2];unfold fc;split<;>simp
   intro a ha
   simp only [List.mem_cons,List.mem_append] at ha
   rcases ha with rfl|ha|ha
   · simp
   · split at ha
     · cases ha
     · rw [List.mem_singleton.1 ha];exact lF
   · split at ha
     · cases ha
     · rw [List.mem_singleton.1 ha];exact lG
theorem Qb {syn:Int} {l:List (List UInt8)} {v:List UInt8} {vs:List (List UInt8)} (h:bX syn v=none):gl syn l (v::vs)=([],21):=by rw [gl,h]
theorem Qa {syn:Int} {l:List (List UInt8)} {v n:List UInt8} {vs:List (List UInt8)} (h:bX syn v=some n):gl syn l (v::vs)=if inM syn l n=false then ([],16) else gl syn (l.filter fun x=>decide (cJ syn x≠n)) vs:=by rw [gl,h]
abbrev mdC (m:Mdf):List AV:=[.int .i64 m.1,.str m.2.1,.sl (m.2.2.map AV.str) m.2.2.length none]
def PN (ms:List Mdf):List AV:=ms.flatMap mdC
theorem Ti (ms:List Mdf):(PN ms).length=ms.length * 3:=by
 induction ms with
 | nil=>rfl
 | cons a l ih=>simp only [PN,List.flatMap_cons,List.length_append,mdC,List.length_cons,List.length_nil] at ih ⊢;omega
abbrev noM:Mdf:=(0,[],[])
theorem QI:∀ {ms:List Mdf} {k:Nat},k<ms.length→((PN ms).drop (k * 3)).take 3=mdC (ms.getD k noM)
 | a::l,0,_=>rfl
 | a::l,k+1,h=>by
   have ih:=@QI l k (by simpa using h)
   rw [show (k+1) * 3=k * 3+1+1+1 by omega]
   simpa [PN,mdC] using ih
theorem O3 {syn:Int}:∀ {vs l:List (List UInt8)},(gl syn l vs).1.length≤l.length
 | [],l=>Nat.le_refl _
 | v::vs,l=>by
   rw [gl]
   rcases hv:bX syn v with _|n
   · simp
   · simp only
     split
     · simp
     · exact Nat.le_trans O3 (List.length_filter_le _ _)
theorem Vc {ts:List Typ} {l:List Atr} {m:Mdf} {B:Nat} (hB:∀ a∈l,a.2.length≤B):(Do ts l m).1.length≤l.length+1∧∀ a∈(Do ts l m).1,a.2.length≤B+m.2.2.length:=by
 have nil:([]:List Atr).length≤l.length+1∧∀ a∈([]:List Atr),a.2.length≤B+m.2.2.length:=⟨by simp,fun a ha=>by cases ha⟩
 have set:∀ (n:List UInt8) (us:List (List UInt8)) (d:Bool),us.length≤B+m.2.2.length→(dN n us d l).length≤l.length+1∧∀ a∈dN n us d l,a.2.length≤B+m.2.2.length:=fun n us d hu=>by
   refine ⟨?_,fun a ha=>?_⟩
   · have:=@Kw n us d l
     split at this<;>omega
   · rcases vA ha with e|e
     · rw [e];exact hu
     · have:=hB a e;omega
 have hv:∀ n,(bm l n).length≤B:=fun n=>Nj hB
 unfold Do
 split
 · exact nil
 rcases hty:gU ts m.2.1 with _|ty
 · exact nil
 simp only
 split
 · split
   · exact nil
   · split
     · exact nil
     · refine set _ _ _ ?_
       split
       · simp
       · have:=@O3 ty.2.1 m.2.2 (bm l m.2.1)
         have:=hv m.2.1
         omega
 · split
   · exact nil
   · obtain ⟨was,hwas⟩:∃ w,(if m.1=2 then [] else bm l m.2.1)=w:=⟨_,rfl⟩
     have hwl:was.length≤B:=by
       rw [← hwas]
       split
       · simp
       · exact hv m.2.1
     rw [hwas]
     split
     · exact nil
     · rename_i hc
       simp only [ne_eq,Decidable.not_not] at hc
       have h1:=Iz hc
       refine set _ _ _ ?_
       omega
theorem PF {ts:List Typ} {l:List Atr} {m:Mdf} (hts:Qg ts) (h:∀ a∈l,bH a.1):∀ a∈(Do ts l m).1,bH a.1:=by
 have set:∀ (n:List UInt8) (us:List (List UInt8)) (d:Bool),bH n→∀ a∈dN n us d l,bH a.1:=fun n us d hn a ha=>by
   rcases vA ha with e|e
   · rw [e];exact hn
   · exact h a e
 have nil:∀ a∈([]:List Atr),bH a.1:=fun a ha=>by cases ha
 unfold Do
 split
 · exact nil
 rcases hty:gU ts m.2.1 with _|ty
 · exact nil
 have htr:=hts.2.1 ty (i7 hty).1
 simp only
 split
 · split
   · exact nil
   · split
     · exact nil
     · exact set _ _ _ htr
 · split
   · exact nil
   · obtain ⟨was,hwas⟩:∃ w,(if m.1=2 then [] else bm l m.2.1)=w:=⟨_,rfl⟩
     rw [hwas]
     split
     · exact nil
     · exact set _ _ _ htr
theorem V5 {ts:List Typ} {capT:Option Nat} {c2:List AV} {n2:Nat} {cap2:Option Nat} {l:List Atr} {m:Mdf} {cap:Option Nat} (hts:Qg ts) (hl:l.length≤1100000) (hz:∀ a∈l,bH a.1∧a.2.length+m.2.2.length≤1100000) (hvs:m.2.2.length≤1100000) (hn:bH m.2.1)
   {R:List Atr×Int} (hR:Do ts l m=R) {L:List Blk} {K:AV→List Blk→Prop} (h:K (.tup [.sl (be R.1) R.1.length none,.int .i64 R.2]) L) :
   ao Tryz.prog 28 [.agg [.sl (cv ts) ts.length capT,.sl c2 n2 cap2],.sl (be l) l.length cap,.agg (mdC m)] L K:=by
 obtain ⟨o,n,vs⟩:=m
 simp only at hz hvs hn
 simp only [mdC]
 obtain ⟨sC,hsC⟩:∃ s,AV.sl c2 n2 cap2=s:=⟨_,rfl⟩
 rw [hsC]
 clear hsC
 replace h:=hid h
 replace hz:=hid hz
 refine ag LT (by simp [CJ]) ?_
 simp only [CJ,aN]
 unfold Do at hR
 by_cases ho:o<0∨2<o
 · have gg:(decide (o<0) || decide (2<o))=true:=by
     rcases ho with e|e
     · rw [decide_eq_true e,Bool.true_or]
     · rw [decide_eq_true e,Bool.or_true]
   rw [if_pos ho] at hR
   have h':=h.out
   rw [← hR] at h'
   replace h':=hid h'
   clear h hR ho
   refine wk ?_
   exact aX (aa rfl h'.out)
 have gg:(decide (o<0) || decide (2<o))=false:=by
   rw [decide_eq_false (fun e=>ho (.inl e)),decide_eq_false (fun e=>ho (.inr e))];rfl
 rw [if_neg ho] at hR
 simp only at hR
 replace hR:=hid hR
 refine wk ?_
 refine W7 hts.1 hts.2.1 hn (fun hty=>?_) (fun t ht hty=>?_)
 · have hR2:=hR.out
   rw [hty] at hR2
   simp only at hR2
   have h':=h.out
   rw [← hR2] at h'
   replace h':=hid h'
   clear hR hR2 hty h
   refine sk ?_
   refine wk ?_
   exact aX (aa rfl h'.out)
 have hR2:=hR.out
 rw [hty] at hR2
 simp only at hR2
 have e5:=Gs ht
 have e6:t * 4+4≤(cv ts).length:=by rw [KN];omega
 have g3:¬ (t:Int)<0:=by omega
 have g4:(t:Int)<(ts.length:Int):=by omega
 have htn:=i7 hty
 obtain ⟨ty,hte⟩:∃ ty,ts.getD t Mo=ty:=⟨_,rfl⟩
 rw [hte] at e5 htn hR2
 simp only [tyC] at e5
 have htr:=hts.2.1 ty htn.1
 obtain ⟨V,hV⟩:∃ V,bm l n=V:=⟨_,rfl⟩
 have hVl:V.length+vs.length≤1100000:=by
   by_cases hl0:l=[]
   · rw [← hV,hl0];simp [bm];omega
   · have:=Nj (l:=l) (n:=n) (m:=1100000 - vs.length) fun a ha=>by have:=(hz.out a ha).2;omega
     rw [hV] at this;omega
 rw [hV] at hR2
 have kk1:Hid (Ctr Tryz.prog 21 [.sl (be l) l.length cap,.str n] (.sl (V.map AV.str) V.length none)):=hid fun q=>IG hl (fun a ha=>⟨(hz.out a ha).1,by have:=(hz.out a ha).2;omega⟩) hn (by rw [hV];exact q)
 have hset:∀ us:List (List UInt8),∀ cu:Option Nat,∀ {L:List Blk} {K:AV→List Blk→Prop},K (.sl (be (dN ty.1 us us.isEmpty l)) (dN ty.1 us us.isEmpty l).length none) L→ao Tryz.prog 22 [.sl (be l) l.length cap,.str ty.1,.sl (us.map AV.str) us.length cu] L K:=fun us cu {L K} q=>SE hl (fun a ha=>⟨(hz.out a ha).1,by have:=(hz.out a ha).2;omega⟩) htr q
 replace hset:=@hid _ @hset
 replace hts:=hid hts
 clear hR hV hty htn hte
 by_cases h1:o=1
 · subst h1
   rw [if_pos rfl] at hR2
   by_cases hne:vs=[]∧V=[]
   · rw [if_pos hne] at hR2
     obtain ⟨rfl,rfl⟩:=hne
     have h':=h.out
     rw [← hR2] at h'
     replace h':=hid h'
     clear hR2 h
     refine sk ?_
     refine wk ?_
     exact aX (aa rfl h'.out)
   rw [if_neg hne] at hR2
   have gv:(decide ((vs.length:Int)=0) && decide ((V.length:Int)=0))=false:=by
     rw [Bool.and_eq_false_iff]
     by_cases e:vs=[]
     · right
       have:V≠[]:=fun e2=>hne ⟨e,e2⟩
       rw [decide_eq_false_iff_not]
       intro e3
       exact this (List.length_eq_zero_iff.1 (by omega))
     · left
       rw [decide_eq_false_iff_not]
       intro e3
       exact e (List.length_eq_zero_iff.1 (by omega))
   obtain ⟨D,hD⟩:∃ D,gl ty.2.1 V vs=D:=⟨_,rfl⟩
   rw [hD] at hR2
   replace hD:=hid hD
   replace hR2:=hid hR2
   clear hne
   refine sk ?_
   refine wk ?_
   obtain ⟨mC,hmC⟩:∃ b,Blk.cells [.int .i64 1,.str n,.sl (vs.map AV.str) vs.length none]=b:=⟨_,rfl⟩
   obtain ⟨tC,htC⟩:∃ b,Blk.cells [.str ty.1,.int .i64 ty.2.1,.bool ty.2.2.1,.bool ty.2.2.2]=b:=⟨_,rfl⟩
   obtain ⟨sB,hsB⟩:∃ b,Blk.cells [.sl (cv ts) ts.length capT,sC]=b:=⟨_,rfl⟩
   refine aI (fun m T' L'=>∃ (i:Nat) (u:List (List UInt8)) (cu:Option Nat) (X:List Blk),m=vs.length - i∧i≤vs.length∧u.length≤V.length∧Hid (gl ty.2.1 u (vs.drop i)=D)∧T'=[(59,.int .i64 (i:Int)),(58,.int .i64 vs.length),(57,.sl (vs.map AV.str) vs.length none),(10,.sl (u.map AV.str) u.length cu),(9,.ptr (L.length+2) 0),(5,.ptr (L.length+1) 0),(1,.sl (be l) l.length cap)]∧L'=L++(sB::mC::tC::X)) (CutS (b:=by simp)) ⟨0,V,none,[],rfl,Nat.zero_le _,Nat.le_refl _,hid (by simpa using hD.out),rfl,by rw [← hmC,← htC,← hsB]⟩ ?_
   rintro _ _ _ ⟨i,u,cu,X,rfl,hi,hul,hI,rfl,rfl⟩
   subst hmC htC hsB
   by_cases hlt:i<vs.length
   rotate_left
   · have hke:i=vs.length:=by omega
     subst hke
     have q1:¬ (vs.length:Int)<(vs.length:Int):=by omega
     have hI2:=hI.out
     rw [List.drop_length,gl] at hI2
     have hR3:=hR2.out
     rw [← hI2,if_neg (by simp)] at hR3
     simp only at hR3
     by_cases hvn:vs=[]
     · rw [if_pos hvn,if_pos hvn] at hR3
       have h':=h.out
       rw [← hR3] at h'
       replace h':=hid h'
       have kk1:=@hid _ (fun L K=>hset.out [] (some 0) (L:=L) (K:=K))
       simp only [List.map_nil,List.length_nil,List.isEmpty_nil] at kk1
       subst hvn
       clear h hset hR2 hR3 hI hI2 hD
       refine wk ?_
       refine aX (aa ?_ ?_)
       · simp only [AV.frz,AV.frzL,ee,AV.refs,AV.refsL,fq];rfl
       · simp only [AV.frz,AV.frzL,ee];exact h'.out
     · rw [if_neg hvn,if_neg hvn] at hR3
       have q2:¬ (vs.length:Int)=0:=fun e=>hvn (List.length_eq_zero_iff.1 (by omega))
       have h':=h.out
       rw [← hR3] at h'
       replace h':=hid h'
       have kk1:=@hid _ (fun L K=>hset.out u cu (L:=L) (K:=K))
       clear h hset hR2 hR3 hI hI2 hD hvn
       refine wk ?_
       refine aX (aa ?_ ?_)
       · simp only [AV.frz,AV.frzL,ee,AV.refs,AV.refsL,fq];rfl
       · simp only [AV.frz,AV.frzL,ee];exact h'.out
   have q1:(i:Int)<(vs.length:Int):=by omega
   have q2:IntKind.i64.wrap ((i:Int)+1)=(i:Int)+1:=ac (by omega) (by omega)
   obtain ⟨v,hv⟩:∃ v,vs.getD i []=v:=⟨_,rfl⟩
   have q3:(vs.map AV.str).getD i .undef=.str v:=by rw [← hv];simp [hlt]
   have hdr:vs.drop i=v::vs.drop (i+1):=by rw [List.drop_eq_getElem_cons hlt,← hv];simp [hlt]
   have hI2:=hI.out
   rw [hdr] at hI2
   have hu1:u.length≤1100000:=by omega
   clear hv hdr hI hD
   refine wk ?_
   refine jP ?_
   rcases hn:bX ty.2.1 v with _|nv
   · rw [Qb hn] at hI2
     have hR3:=hR2.out
     rw [← hI2,if_pos (by simp)] at hR3
     have h':=h.out
     rw [← hR3] at h'
     replace h':=hid h'
     simp only [JO]
     clear hI2 hn hR2 hR3 h
     refine sk ?_
     refine wk ?_
     exact aX (aa rfl h'.out)
   rw [Qa hn] at hI2
   simp only [JO]
   rcases hb:inM ty.2.1 u nv with _|_
   · rw [if_pos hb] at hI2
     have hR3:=hR2.out
     rw [← hI2,if_pos (by simp)] at hR3
     have h':=h.out
     rw [← hR3] at h'
     replace h':=hid h'
     clear hI2 hn hR2 hR3 h
     refine sk ?_
     have kk1:=@hid _ (fun L K=>Vj (syn:=ty.2.1) (n:=nv) (cap:=cu) hu1 (L:=L) (K:=K))
     refine wk ?_
     exact aX (aa rfl h'.out)
   rw [if_neg (by rw [hb];simp)] at hI2
   replace hI2:=hid hI2
   clear hn
   refine sk ?_
   have kk1:=@hid _ (fun L K=>Vj (syn:=ty.2.1) (n:=nv) (cap:=cu) hu1 (L:=L) (K:=K))
   refine wk ?_
   clear kk1 hb
   obtain ⟨F,hF⟩:∃ F,u.filter (fun x=>decide (cJ ty.2.1 x≠nv))=F:=⟨_,rfl⟩
   rw [hF] at hI2
   have hFl:F.length≤u.length:=by rw [← hF];exact List.length_filter_le _ _
   replace hF:=hid hF
   refine cM (l:=[]) (n:=0) 15 1 rfl (Nat.zero_mul 1).symm ?_
   refine aI (fun m T' L'=>∃ (j:Nat) (C:List AV) (z:Nat),m=u.length - j∧j≤u.length∧z≤j∧Hid (C=((u.take j).filter (fun x=>decide (cJ ty.2.1 x≠nv))).map AV.str∧z=((u.take j).filter (fun x=>decide (cJ ty.2.1 x≠nv))).length)∧T'=[(80,.int .i64 (j:Int)),(79,.int .i64 u.length),(78,.sl (u.map AV.str) u.length cu),(15,.gsl C z (L.length+(X.length+3)) 1),(13,.str nv),(59,.int .i64 (i:Int)),(58,.int .i64 vs.length),(57,.sl (vs.map AV.str) vs.length none),(9,.ptr (L.length+2) 0),(5,.ptr (L.length+1) 0),(1,.sl (be l) l.length cap)]∧L'=L++(Blk.cells [.sl (cv ts) ts.length capT,sC]::Blk.cells [.int .i64 1,.str n,.sl (vs.map AV.str) vs.length none]::Blk.cells [.str ty.1,.int .i64 ty.2.1,.bool ty.2.2.1,.bool ty.2.2.2]::(X++[.spare z 1]))) (pH (by repeat' first|exact pG|refine b7 rfl rfl ?_|refine ia rfl rfl ?_|refine b7 rfl (by simp) ?_) (by simp)) ⟨0,[],0,rfl,Nat.zero_le _,Nat.le_refl _,hid ⟨rfl,rfl⟩,rfl,by simp⟩ ?_
   rintro _ _ _ ⟨j,C,z,rfl,hj,hz1,hC,rfl,rfl⟩
   by_cases hjl:j<u.length
   rotate_left
   · have hke:j=u.length:=by omega
     subst hke
     have j1:¬ (u.length:Int)<(u.length:Int):=by omega
     have hC2:=hC.out
     rw [List.take_length,hF.out] at hC2
     clear hC
     refine wk ?_
     obtain ⟨rfl,rfl⟩:=hC2
     exact az _ _ _ (by omega) (pH (by repeat' first|exact pG|refine b7 rfl rfl ?_|refine ia rfl (by simp only [AV.frz,gj]) ?_|refine b7 rfl (congrArg (AV.int _) (by omega)) ?_) (by simp)) ⟨i+1,F,none,_,rfl,hlt,by omega,hI2,rfl,rfl⟩
   have j1:(j:Int)<(u.length:Int):=by omega
   have j2:IntKind.i64.wrap ((j:Int)+1)=(j:Int)+1:=ac (by omega) (by omega)
   obtain ⟨x,hx⟩:∃ x,u.getD j []=x:=⟨_,rfl⟩
   have j3:(u.map AV.str).getD j .undef=.str x:=by rw [← hx];simp [hjl]
   have htk:u.take (j+1)=u.take j++[x]:=by rw [List.take_succ_eq_append_getElem hjl,← hx];simp [hjl]
   clear hx
   have kk1:=@hid _ (fun L K=>vC (syn:=ty.2.1) (v:=x) (L:=L) (K:=K))
   by_cases he:cJ ty.2.1 x=nv
   · have hC2:C=((u.take (j+1)).filter (fun x=>decide (cJ ty.2.1 x≠nv))).map AV.str∧z=((u.take (j+1)).filter (fun x=>decide (cJ ty.2.1 x≠nv))).length:=by
       rw [htk,List.filter_append,List.filter_cons_of_neg (by simpa using he),List.filter_nil,List.append_nil]
       exact hC.out
     replace hC2:=hid hC2
     clear hC htk
     refine wk ?_
     exact az _ _ _ (by omega) (CutL (b:=by simp)) ⟨j+1,C,z,rfl,hjl,by omega,hC2,rfl,rfl⟩
   · have hC2:C++[.str x]=((u.take (j+1)).filter (fun x=>decide (cJ ty.2.1 x≠nv))).map AV.str∧z+1=((u.take (j+1)).filter (fun x=>decide (cJ ty.2.1 x≠nv))).length:=by
       rw [htk,List.filter_append,List.filter_cons_of_pos (by simpa using he),List.filter_nil]
       obtain ⟨e1,e2⟩:=hC.out
       exact ⟨by rw [e1];simp,by rw [e2];simp⟩
     replace hC2:=hid hC2
     clear hC htk
     refine wk ?_
     exact az _ _ _ (by omega) (CutL (b:=by simp)) ⟨j+1,C++[.str x],z+1,rfl,hjl,by omega,hC2,rfl,rfl⟩
 rw [if_neg h1] at hR2
 by_cases h0:o=0
 · subst h0
   by_cases hv:vs=[]
   · rw [if_pos ⟨rfl,hv⟩] at hR2
     subst hv
     have h':=h.out
     rw [← hR2] at h'
     replace h':=hid h'
     clear hR2 h h1 ho
     refine sk ?_
     refine wk ?_
     exact aX (aa rfl h'.out)
   rw [if_neg (fun e=>hv e.2),if_neg (show ¬ ((0:Int)=2) by decide)] at hR2
   have g5:¬ (vs.length:Int)=0:=fun e=>hv (List.length_eq_zero_iff.1 (by omega))
   obtain ⟨A,hA⟩:∃ A,cf ty.2.1 ty.2.2.1 V vs=A:=⟨_,rfl⟩
   rw [hA] at hR2
   have kk2:Hid (Ctr Tryz.prog 20 [.agg [.str ty.1,.int .i64 ty.2.1,.bool ty.2.2.1,.bool ty.2.2.2],.sl (V.map AV.str) V.length none,.sl (vs.map AV.str) vs.length none] (.tup [.sl (A.1.map AV.str) A.1.length none,.int .i64 A.2])):=hid fun q=>Pw (ty:=ty) (by omega) hA q
   have kk3:=@hid _ (fun L K=>hset.out A.1 none (L:=L) (K:=K))
   clear hset hA hv h1 ho
   by_cases hc0:A.2=0
   · rw [if_neg (by rw [hc0];simp)] at hR2
     have h':=h.out
     rw [← hR2] at h'
     replace h':=hid h'
     clear hR2 h
     refine sk ?_
     refine wk ?_
     refine aX (aa ?_ ?_)
     · simp only [AV.frz,AV.frzL,ee,AV.refs,AV.refsL,fq];rfl
     · simp only [AV.frz,AV.frzL,ee];exact h'.out
   · rw [if_pos hc0] at hR2
     have h':=h.out
     rw [← hR2] at h'
     replace h':=hid h'
     clear hR2 h
     refine sk ?_
     refine wk ?_
     exact aX (aa rfl h'.out)
 have h2:o=2:=by omega
 subst h2
 rw [if_neg (fun e=>by cases e.1),if_pos rfl] at hR2
 obtain ⟨A,hA⟩:∃ A,cf ty.2.1 ty.2.2.1 [] vs=A:=⟨_,rfl⟩
 rw [hA] at hR2
 have kk2:Hid (Ctr Tryz.prog 20 [.agg [.str ty.1,.int .i64 ty.2.1,.bool ty.2.2.1,.bool ty.2.2.2],.sl [] 0 (some 0),.sl (vs.map AV.str) vs.length none] (.tup [.sl (A.1.map AV.str) A.1.length none,.int .i64 A.2])):=hid fun q=>Pw (ty:=ty) (l:=[]) (by simp;omega) hA q
 have kk3:=@hid _ (fun L K=>hset.out A.1 none (L:=L) (K:=K))
 clear hset hA h1 ho h0
 by_cases hc0:A.2=0
 · rw [if_neg (by rw [hc0];simp)] at hR2
   have h':=h.out
   rw [← hR2] at h'
   replace h':=hid h'
   clear hR2 h
   refine sk ?_
   refine wk ?_
   refine aX (aa ?_ ?_)
   · simp only [AV.frz,AV.frzL,ee,AV.refs,AV.refsL,fq];rfl
   · simp only [AV.frz,AV.frzL,ee];exact h'.out
 · rw [if_pos hc0] at hR2
   have h':=h.out
   rw [← hR2] at h'
   replace h':=hid h'
   clear hR2 h
   refine sk ?_
   refine wk ?_
   exact aX (aa rfl h'.out)
theorem SW {ts:List Typ} {capT:Option Nat} {c2:List AV} {n2:Nat} {cap2:Option Nat} {l:List Atr} {ms:List Mdf} {cap capM:Option Nat} (hts:Qg ts) (hl:l.length≤100000) (hv:∀ a∈l,bH a.1∧a.2.length≤100000) (hm:ms.length≤100) (hmv:∀ m∈ms,bH m.2.1∧m.2.2.length≤1000)
   {R:List Atr×Int} (hR:Ji ts l ms=R) {L:List Blk} {K:AV→List Blk→Prop} (h:K (.tup [.sl (be R.1) R.1.length none,.int .i64 R.2]) L) :
   ao Tryz.prog 14 [.agg [.sl (cv ts) ts.length capT,.sl c2 n2 cap2],.sl (be l) l.length cap,.sl (PN ms) ms.length capM] L K:=by
 replace h:=hid h
 replace hR:=hid hR
 replace hmv:=hid hmv
 refine ag I2 (by simp [kV]) ?_
 simp only [kV,aN]
 obtain ⟨sC,hsC⟩:∃ s,AV.sl c2 n2 cap2=s:=⟨_,rfl⟩
 rw [hsC]
 have kk1:Hid (Ctr Tryz.prog 27 [.sl (be l) l.length cap] (.sl (be l) l.length none)):=hid fun q=>UW (by omega) (fun a ha=>by have:=(hv a ha).2;omega) q
 refine wk ?_
 clear kk1
 refine aI (fun n T' L'=>∃ (i:Nat) (out:List Atr) (X:List Blk),n=ms.length - i∧i≤ms.length∧out.length≤l.length+i∧Hid (Ji ts out (ms.drop i)=R)∧Hid (∀ a∈out,bH a.1∧a.2.length≤100000+1000 * i)∧T'=[(17,.int .i64 (i:Int)),(16,.int .i64 ms.length),(15,.sl (PN ms) ms.length capM),(8,.sl (be out) out.length none),(3,.ptr L.length 0)]∧L'=L++(.cells [.sl (cv ts) ts.length capT,sC]::X)) (CutS (b:=by simp)) ⟨0,l,[],rfl,Nat.zero_le _,by omega,hid (by simpa using hR.out),hid (by simpa using hv),rfl,by simp⟩ ?_
 clear hv
 rintro _ _ _ ⟨i,out,X,rfl,hi,hol,hI,ho,rfl,rfl⟩
 by_cases hlt:i<ms.length
 · have g1:(i:Int)<(ms.length:Int):=by omega
   have g2:IntKind.i64.wrap ((i:Int)+1)=(i:Int)+1:=ac (by omega) (by omega)
   have e3:=QI hlt
   have e4:i * 3+3≤(PN ms).length:=by rw [Ti];omega
   obtain ⟨m,ha⟩:∃ a,ms.getD i noM=a:=⟨_,rfl⟩
   have hdr:ms.drop i=m::ms.drop (i+1):=by rw [List.drop_eq_getElem_cons hlt,← ha];simp [hlt]
   obtain ⟨hnm,hvs⟩:=hmv.out m (by rw [← ha];simp [hlt])
   rw [ha] at e3
   simp only [mdC] at e3
   have hI2:=hI.out
   rw [hdr,Ji] at hI2
   obtain ⟨A,hA⟩:∃ A,Do ts out m=A:=⟨_,rfl⟩
   have hbd:=Vc (ts:=ts) (l:=out) (m:=m) (B:=100000+1000 * i) (fun a ha=>(ho.out a ha).2)
   have hnr:∀ a∈A.1,bH a.1:=fun a ha=>by
     rw [← hA] at ha
     exact PF hts (fun b hb=>(ho.out b hb).1) a ha
   rw [hA] at hI2 hbd
   have kk1:Hid (Ctr Tryz.prog 28 [.agg [.sl (cv ts) ts.length capT,sC],.sl (be out) out.length none,.agg [.int .i64 m.1,.str m.2.1,.sl (m.2.2.map AV.str) m.2.2.length none]] (.tup [.sl (be A.1) A.1.length none,.int .i64 A.2])):=hid fun q=>by
     rw [← hsC]
     exact V5 hts (by omega) (fun a ha=>⟨(ho.out a ha).1,by have:=(ho.out a ha).2;omega⟩) (by omega) hnm hA q
   obtain ⟨A1,A2⟩:=A
   simp only at hI2 kk1 hbd hnr
   replace hbd:=hid hbd
   replace hnr:=hid hnr
   clear hI hdr ha hA
   by_cases hc0:A2=0
   · subst hc0
     rw [if_neg (by simp)] at hI2
     replace hI2:=hid hI2
     have hol':A1.length≤l.length+(i+1):=by have:=hbd.out.1;omega
     have ho':∀ a∈A1,bH a.1∧a.2.length≤100000+1000 * (i+1):=fun a ha=>⟨hnr.out a ha,by have:=hbd.out.2 a ha;omega⟩
     replace ho':=hid ho'
     refine wk ?_
     exact az _ _ _ (by omega) (CutL (b:=by simp)) ⟨i+1,A1,_,rfl,hlt,hol',hI2,ho',rfl,rfl⟩
   · rw [if_pos hc0] at hI2
     have h':=h.out
     rw [← hI2] at h'
     replace h':=hid h'
     clear hI2
     refine wk ?_
     exact aX (aa rfl h'.out)
 · have hke:i=ms.length:=by omega
   subst hke
   have g1:¬ (ms.length:Int)<(ms.length:Int):=by omega
   have hI2:=hI.out
   rw [List.drop_length,Ji] at hI2
   have h':=h.out
   rw [← hI2] at h'
   replace h':=hid h'
   clear hI hI2 hR
   have e0:=ee out
   refine wk ?_
   refine aX ?_
   simp only [AV.frz,AV.frzL,e0]
   exact aa (by simp only [AV.refs,AV.refsL,fq];rfl) h'.out
theorem Of:∀ (fs:List Int) (p:Int),eZ p fs=true→∀ f∈fs,cx f=true
 | [],_,_,f,hf=>by cases hf
 | x::t,p,h,f,hf=>by
   simp only [eZ,Bool.and_eq_true,decide_eq_true_eq] at h
   rcases List.mem_cons.1 hf with rfl|hf
   · exact h.1.1
   · exact Of t x h.2 f hf
theorem okT {n:Int} (h:cx n=true):0≤n∧n≤9007199254740991:=by simpa [cx] using h
theorem UN {fs:List Int} {lk ch:Int} (h:fJ fs lk ch=true):fs.Pairwise (·≤·)∧fs.length≤100∧(∀ f∈fs,0≤f∧f≤9007199254740991)∧(lk=-1∨(0≤lk∧lk≤9007199254740991))∧(0≤ch∧ch≤9007199254740991):=by
 simp only [fJ,Bool.and_eq_true,Bool.or_eq_true,decide_eq_true_eq] at h
 refine ⟨(List.pairwise_cons.1 (Oe h.1.1.1)).2,by omega,fun f hf=>okT (Of fs 0 h.1.1.1 f hf),?_,okT h.2⟩
 rcases h.1.2 with e|e
 · exact .inl e
 · exact .inr (okT e)
theorem U9 {fs:List Int} {cap:Option Nat} {lk ch:Int} (hn:(fs.length:Int)≤9223372036854775807) (h:K (.bool true) L) :
   ao Tryz.prog 4 [.agg [.sl (bc fs) fs.length cap,.int .i64 lk,.int .i64 ch]] L K:=by
 replace h:=hid h
 have kk1:Hid (Ctr Tryz.prog 6 [] (.bool true)):=hid fun q=>QU q
 obtain ⟨ok,hok⟩:∃ b,fJ fs lk ch=b:=⟨_,rfl⟩
 have kk2:Hid (∀ {cap:Option Nat} {L:List Blk} {K:AV→List Blk→Prop},K (.bool ok) L→ao Tryz.prog 13 [.agg [.sl (bc fs) fs.length cap,.int .i64 lk,.int .i64 ch]] L K):=hid fun q=>Qx hn (by rw [hok];exact q)
 refine ag vn (by simp [fK]) ?_
 simp only [fK,aN]
 cases ok with
 | false =>
   refine wkP ?_
   exact aa rfl h.out
 | true =>
 obtain ⟨f1,f2,f3,f4,f5⟩:=UN hok
 have f2':¬ (100:Int)<(fs.length:Int):=by omega
 have kk3:Hid (Ctr Tryz.prog 8 [] (.agg [.sl (cv bg) bg.length none,.sl O7 9 none])):=hid fun q=>TY q
 have kk4:Hid (Ctr Tryz.prog 15 [.agg [.sl (bc fs) fs.length cap,.int .i64 lk,.int .i64 ch]] (.sl (OF fs lk ch) 3 none)):=hid fun q=>Wb f1 f2 (fun f hf=>⟨(f3 f hf).1,by have:=(f3 f hf).2;omega⟩) (by omega) (by omega) q
 obtain ⟨l,b1,b2,b3,b4⟩:=Wr hok f1 f2 f3 f4 f5
 have hin:InA bg l:=by
   have:=QW (Tc bg) (ms:=Ll fs lk ch) (by rw [b1])
   rwa [b1] at this
 have hmv:∀ m∈Ll fs lk ch,bH m.2.1∧m.2.2.length≤1000:=by
   intro m hm
   simp only [Ll,List.mem_cons,List.not_mem_nil,or_false] at hm
   rcases hm with rfl|rfl|rfl
   · exact ⟨by unfold bH;simp only [bF,List.length_cons,List.length_nil];omega,by simp⟩
   · exact ⟨by unfold bH;simp only [bM,List.length_cons,List.length_nil];omega,by simp only [fH];omega⟩
   · exact ⟨by unfold bH;simp only [cK,List.length_cons,List.length_nil];omega,by simp only [fc];split<;>simp⟩
 have kk5:Hid (Ctr Tryz.prog 14 [.agg [.sl (cv bg) bg.length none,.sl O7 9 none],.sl [] 0 (some 0),.sl (OF fs lk ch) 3 none] (.tup [.sl (be l) l.length none,.int .i64 0])):=hid fun q=>SW (l:=[]) (ms:=Ll fs lk ch) KH (by simp) (by simp) (by simp [Ll]) hmv b1 q
 have hs:=Tz KH hin (by omega) (fun a ha=>by have:=b4 a ha;omega)
 have kk6:Hid (Ctr Tryz.prog 11 [.sl (be l) l.length none] (.agg [.sl (bc fs) fs.length none,.int .i64 lk,.int .i64 ch])):=hid fun q=>Qz hin.1 hs (by rw [b2];exact q)
 have kk7:Hid (∀ {cap:Option Nat} {L:List Blk} {K:AV→List Blk→Prop},K (.agg [.sl (bc fs) fs.length cap,.int .i64 lk,.int .i64 ch]) L→ao Tryz.prog 10 [.agg [.sl (bc fs) fs.length cap,.int .i64 lk,.int .i64 ch]] L K):=hid fun q=>WS (dx _) q
 have kk8:Hid (Ctr Tryz.prog 9 [.agg [.sl (bc fs) fs.length none,.int .i64 lk,.int .i64 ch],.agg [.sl (bc fs) fs.length cap,.int .i64 lk,.int .i64 ch]] (.bool true)):=hid fun q=>Od (by omega) q
 clear f1 f3 f4 f5 b1 b2 b3 b4 hin hmv hs hok f2
 refine wkP ?_
 exact aa rfl h.out
open Go Go.ChangeShapes
theorem Rt:RdZ Tryz.prog 37 (fun s:List Int×Int×Int=>[.sl (bc s.1) s.1.length none,.int .i64 s.2.1,.int .i64 s.2.2]) (fun s=>(s.1.length:Int)≤9223372036854775807) :=
 (Rd.z (Ru Tryz.underlying37 (N:=3) (by kernel_rfl) (KZ (sz:=1) rfl (by kernel_rfl) (Rv Tryz.underlying33 (Pv Tryz.underlying2) (by kernel_rfl)) (KZ (sz:=1) rfl (by kernel_rfl) (Pv Tryz.underlying2) (KZ (sz:=1) rfl (by kernel_rfl) (Pv Tryz.underlying2) (U4 rfl)))))).map
   fun y hy=>⟨(y.1,y.2.1,y.2.2.1),by have:=hy.1.1;simp only [maxLen] at this;simp only;omega,rfl⟩
end Go.Proofs.YtolfghcbbpcciaaGreatDoor.Av
