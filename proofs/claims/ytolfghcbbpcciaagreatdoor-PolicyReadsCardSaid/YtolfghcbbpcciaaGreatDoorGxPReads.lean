/- Joined texts of the walk, made small by a program. -/
import Derived.Test.YtolfghcbbpcciaaGreatDoorGP4
import Derived.WalkKit
import Derived.ProofKit
import Derived.OpenShut
import Derived.JoinedCond
import Derived.Test.YtolfghcbbpcciaaGreatDoorGP5
import Derived.SizedLaws
import Derived.Test.YtolfghcbbpcciaaGreatDoorRows
import Derived.KernelRfl
import Derived.Test.YtolfghcbbpcciaaGreatDoorGQ4
import Derived.Test.YtolfghcbbpcciaaGreatDoorGS1
import Derived.Test.YtolfghcbbpcciaaGreatDoorGO1
import Derived.Test.YtolfghcbbpcciaaGreatDoorGA1
import Derived.Test.YtolfghcbbpcciaaGreatDoorGE1
import Derived.Test.YtolfghcbbpcciaaGreatDoorGR3
import Derived.Test.YtolfghcbbpcciaaGreatDoorGE4
import Derived.Test.YtolfghcbbpcciaaGreatDoorGQ5
import Derived.Test.YtolfghcbbpcciaaGreatDoorGE3
import Derived.Test.YtolfghcbbpcciaaGreatDoorGQ3
import Derived.Shelf.Strings.Builder1
import Derived.Shelf.Strings.Builder2
import Derived.Shelf.Strings.OnBuilder
import Derived.Shelf.Small.Bits
import Derived.Shelf.Small.Strs
import Derived.Shelf.Strconv.Itoa0
import Derived.Shelf.Strconv.Itoa1
import Derived.Shelf.LaysM
import Derived.Shelf.Strconv.Itoa2
import Derived.Shelf.Strconv.Itoa3
import Derived.Shelf.Strconv.Itoa4
import Derived.Shelf.Strconv.ParseIntEmpty
import Derived.Shelf.Strconv.Clone
import Derived.Shelf.Strconv.SyntaxError
import Derived.Shelf.LaysC
import Derived.Shelf.Strconv.ToError
import Derived.Shelf.Strconv.Lower
import Derived.Shelf.Strconv.ParseUint10
import Derived.Shelf.Strconv.ParseUint10Empty
import Derived.Shelf.Strconv.ParseUint10Any
import Derived.Shelf.Strconv.ParseInt10
import Derived.Shelf.Strconv.RangeError
import Derived.Shelf.Strconv.ToErrorRange
import Derived.Shelf.Strconv.ParseUintEmpty
import Derived.Shelf.Strconv.ParseUint10b64
import Derived.Shelf.Strconv.ParseUint10b32
import Derived.Shelf.Strconv.ParseUint10b16
import Derived.Shelf.Strconv.ParseUint10b8
import Derived.Shelf.Strconv.ParseUint10At
import Derived.Shelf.Strconv.ParseInt10At64
import Derived.Shelf.Strconv.ParseInt10At32
import Derived.Shelf.Strconv.ParseInt10At16
import Derived.Shelf.Strconv.ParseInt10At8
import Derived.Shelf.Strconv.ParseInt10All
import Derived.Shelf.Strconv.ParseIntPublic10
import Derived.Shelf.Strconv.ErrVarParseInt
import Derived.Shelf.Strings.Search1
import Derived.Shelf.Strings.Search2
import Derived.Shelf.Strings.Cut
import Derived.Shelf.Strings.Shaped
import Derived.Shelf.Sort.Plain
import Derived.Shelf.GgClosure.StringsIndexFunc
import Derived.Ground.GgwProg
import Derived.Shelf.GgClosure.StringsIndexFuncTop
import Derived.Shelf.GgClosure.StringsRunes
import Derived.Shelf.Slices.In.SortNone
import Derived.Ground.SlgmProg
import Derived.Shelf.SortM.Plain
import Derived.Shelf.SortM.SortNone
import Derived.Test.YtolfghcbbpcciaaGreatDoorProg
import Derived.Test.YtolfghcbbpcciaaGreatDoorGE5
import Derived.Test.YtolfghcbbpcciaaGreatDoorGQ1
import Derived.Test.YtolfghcbbpcciaaGreatDoorGE2
import Derived.Test.YtolfghcbbpcciaaGreatDoorGQ2
import Derived.Test.YtolfghcbbpcciaaGreatDoorGQ6
set_option linter.unusedSimpArgs false
set_option linter.unusedVariables false
namespace Go.Proofs.YtolfghcbbpcciaaGreatDoor.Av
open Go
variable {L:List Blk} {K:AV→List Blk→Prop}
section
variable {P:Program} {w0:World} {S0:Nat→Prop} {N:Nat} {own:Nat→Nat→Nat} {Q:Exit→Tm→List Blk→Prop} {T:Tm} {L:List Blk}
end
section
variable {P:Program} {K:Tm→Prop} {L L1:List Blk} {Ls:List (List Blk)} {p:AV} {d:Option Nat} {op:LOp} {rest:List ad} {T:Tm} {t:Nat} {b:Bool} {al:Option Nat} {n:Nat}
end
theorem Lf (xs:List Int):(xs.map (AV.int .i64)).all AV.one=true:=by rw [List.all_map];simp [AV.one]
section
variable {P:Program} {L:List Blk} {body:List SOp} {d:Nat} {x:Opd} {k:Tm→Prop} {T:Tm} {c:Prop} [Decidable c] {p q:Bool}
variable {a b:Prop} [Decidable a] [Decidable b]
end
attribute [push_cast] Lf
open Go Go.ChangeShapes Go.WideShapes Go.ChangeAt Go.RowKit
variable {L:List Blk} {K:AV→List Blk→Prop}
theorem PH {P:Program} {w:World} {base:Nat} {t:TypeId} {v:Value} (hg:fv P t=some false) (h:Value.okWide P w .any base t v):v.cells.toList=[v]:=by
 unfold fv at hg
 unfold Value.okWide at h
 split at hg
 · cases hg
 · cases hg
 · rename_i d h1 h2 hu
   rw [hu] at h
   split at h
   · rename_i e;cases e;exact absurd rfl (h1 _)
   · rename_i e;cases e;exact absurd rfl (h2 _ _)
   · cases v<;>try rfl
     rename_i cs
     unfold Cell.okWide at h
     split at h<;>try (rename_i e1 e2;cases e2)
     unfold Cell.ok at h
     split at h<;>first|(rename_i e1 e2;cases e2;done)|cases h
 · cases hg
open Go Go.ChangeShapes Go.WideShapes Go.ChangeAt
set_option maxHeartbeats 8000000
set_option maxRecDepth 100000
theorem Qy {P:Program} {t:TypeId} (ht:P.underlying t=some .string):RdZ P t (fun s:List UInt8=>[.str s]) (fun s=>s.length≤reachBytes):=fun H enc w fuel cs x hx hz=>by
 obtain ⟨s,rfl,rfl,hw⟩:=DataW.trod_string ht hx
 exact ⟨s.data.toList,hz _ (by simp [DataW.weights]),by simp [VRL,VR]⟩
theorem vp {H:Type} {P:Program} {e:TypeId}:∀ {l:List (DataW H)} {d:DataW H},d∈l→∀ n∈d.weights P e,n∈DataW.weightsAll P e l
 | a::l,d,h,n,hn=>by
   rw [DataW.weightsAll]
   rcases List.mem_cons.1 h with rfl|h
   · exact List.mem_append_left _ hn
   · exact List.mem_append_right _ (vp h n hn)
theorem MO {P:Program} {t e:TypeId} {X:Type} {ec:X→List AV} {ok:X→Prop} (ht:P.underlying t=some (.slice e)) (he:RdZ P e ec ok) (hz':decide (0<P.cellsOf e)=true) :
   RdZ P t (fun l:List X=>[.sl (l.flatMap ec) l.length none]) (fun l=>l.length≤maxLen∧∀ y∈l,ok y):=fun H enc w fuel cs x hx hwt=>by
 have hz:0<P.cellsOf e:=of_decide_eq_true hz'
 rcases DataW.trod_slice ht hx with ⟨rfl,_⟩|⟨a,len,cap,elems,rest,n,_,rfl,rfl,_,hlc,hcap,hel,hget,hsp,_⟩
 · exact ⟨[],⟨by simp,by simp⟩,by simp only [VRL,VR];exact ⟨_,_,rfl,⟨none,0,rfl,Nat.le_refl _,by simp,.inl ⟨rfl,rfl,rfl⟩⟩,rfl⟩⟩
 have hspot:cap≠0→a.spot=none:=fun hc=>by
   have first:∀ r:Option (DataW H×List MemPlace),r≠none→(w.cells? 0 (a.add (0 * P.cellsOf e)) (P.cellsOf e)).bind (DataW.trod enc P w 0 (fun _=>true) true n e)=r→a.spot=none:=fun r hr h1=>by
     obtain ⟨q,rfl⟩:=Option.ne_none_iff_exists'.1 hr
     rw [Option.bind_eq_some_iff] at h1
     obtain ⟨cs',h2,_⟩:=h1
     obtain ⟨h6,h7⟩:=pY h2
     have h8:=h7 0 hz
     obtain ⟨v,hv⟩:∃ v,cs'[0]?=some v:=⟨cs'[0]'(by omega),List.getElem?_eq_getElem _⟩
     rw [hv] at h8
     have:=Nd h8
     simpa [Addr.add] using this
   by_cases hl:len=0
   · obtain ⟨r1,r2⟩:=hsp rfl
     exact first rest[0]? (by rw [List.getElem?_eq_getElem (by omega)];simp) (by simpa [hl] using r2 0 (by omega))
   · exact first elems[0]? (by rw [List.getElem?_eq_getElem (by omega)];simp) (hget 0 (by omega))
 have each:∀ i,i<len→∃ y,ok y∧(ec y).length=P.cellsOf e∧a.spot=none∧VRC (ib w) (ec y) a.block (a.off+i * P.cellsOf e):=fun i hi=>by
   have h1:=hget i hi
   obtain ⟨q,hq⟩:∃ q,elems[i]?=some q:=⟨elems[i]'(by omega),List.getElem?_eq_getElem _⟩
   rw [hq,Option.bind_eq_some_iff] at h1
   obtain ⟨cs',h2,h3⟩:=h1
   obtain ⟨y,h4,h5⟩:=he H enc w n cs' q h3 (fun m hm=>hwt m (by
     simp only [DataW.weights,ht]
     refine List.mem_cons_of_mem _ (List.mem_append_left _ (vp (d:=q.1) ?_ m hm))
     exact List.mem_map.2 ⟨q,List.mem_of_getElem? hq,rfl⟩))
   obtain ⟨h6,h7⟩:=pY h2
   have hl:=h5.length
   have hsp:a.spot=none:=hspot (by omega)
   refine ⟨y,h4,by omega,hsp,VRC.of_get fun j u hu=>?_⟩
   obtain ⟨v,h8,h9⟩:=h5.get hu
   refine ⟨v,?_,h9⟩
   have hj:j<P.cellsOf e:=by
     have:=(List.getElem?_eq_some_iff.1 hu).1
     omega
   have h10:=h7 j hj
   rw [h8] at h10
   rw [← h10]
   have hadd:∀ k,a.add k=⟨a.block,a.off+k,none⟩:=fun k=>by
     obtain ⟨b,o,s⟩:=a
     simp only at hsp;subst hsp
     exact Addr.add_mk b o k
   rw [hadd,Addr.add_mk]
   rfl
 obtain ⟨ys,h1,h2⟩:=IK _ len each
 refine ⟨ys,⟨by omega,fun y hy=>?_⟩,?_⟩
 · obtain ⟨i,hi⟩:=List.getElem?_of_mem hy
   exact (h2 i y hi).1
 · simp only [VRL]
   refine ⟨_,[],rfl,?_,rfl⟩
   simp only [VR]
   refine ⟨_,_,by rw [h1],by omega,by simp,?_⟩
   by_cases hc:cap=0
   · have:ys=[]:=by
       have:ys.length=0:=by omega
       simpa using this
     subst this
     exact .inl ⟨rfl,hc,rfl⟩
   · refine .inr ⟨a.block,a.off,?_,Mi fun i y hy=>⟨(h2 i y hy).2.1,(h2 i y hy).2.2.2⟩⟩
     have hs:a.spot=none:=hspot hc
     cases a;simp only at hs ⊢;rw [hs]
def VE (P:Program) (N o:Nat) (fs:List Field) {X:Type} (ec:X→List AV) (ok:X→Prop):Prop :=
 ∀ (H:Type) (enc:TypeId×Value→H) (w:World) (n:Nat) (cs:List Value),cs.length=N →
   (∀ f∈fs,∃ x,DataW.trod enc P w 0 (fun _=>true) true n f.type ((cs.drop f.offset).take (P.cellsOf f.type))=some x∧∀ m∈x.1.weights P f.type,m≤reachBytes)→∃ y,ok y∧VRL (ib w) (ec y) (cs.drop o)
theorem SS {P:Program} {N o:Nat} (h:o=N):VE P N o [] (fun _:Unit=>[]) (fun _=>True):=fun H enc w n cs hl _ =>
 ⟨(),trivial,by simp [VRL,h,← hl]⟩
theorem MP {P:Program} {N o sz:Nat} {f:Field} {fs:List Field} {X Y:Type} {ec:X→List AV} {ok:X→Prop} {ec':Y→List AV} {ok':Y→Prop} (hf:f.offset=o) (hz:P.cellsOf f.type=sz) (h:RdZ P f.type ec ok) (r:VE P N (o+sz) fs ec' ok') :
   VE P N o (f::fs) (fun y:X×Y=>ec y.1++ec' y.2) (fun y=>ok y.1∧ok' y.2):=fun H enc w n cs hl hx=>by
 obtain ⟨x,h1,hw⟩:=hx f (by simp)
 obtain ⟨y,h2,h3⟩:=h H enc w n _ x h1 hw
 obtain ⟨z,h4,h5⟩:=r H enc w n cs hl fun g hg=>hx g (by simp [hg])
 refine ⟨(y,z),⟨h2,h4⟩,?_⟩
 have:cs.drop o=(cs.drop f.offset).take (P.cellsOf f.type)++cs.drop (o+sz):=by
   rw [hf,hz,← List.drop_drop,List.take_append_drop]
 rw [this]
 exact h3.append h5
theorem Pt {P:Program} {t:TypeId} {fs:Array Field} {X:Type} {ec:X→List AV} {ok:X→Prop} {N:Nat} (ht:P.underlying t=some (.struct fs)) (hN:P.cellsOf t=N) (r:VE P N 0 fs.toList ec ok):RdZ P t ec ok:=fun H enc w fuel cs x hx hwt=>by
 subst hN
 obtain ⟨xs,n,_,rfl,hl,hlen,hf⟩:=DataW.trod_struct ht hx
 obtain ⟨y,h1,h2⟩:=r H enc w n cs hl fun f hfm=>by
   obtain ⟨i,hi⟩:=List.getElem?_of_mem hfm
   have hi':fs[i]?=some f:=by simpa using hi
   rw [hf i f hi']
   have hlt:i<xs.length:=by
     rw [hlen]
     have:=(List.getElem?_eq_some_iff.1 hi).1
     simpa using this
   refine ⟨xs[i],List.getElem?_eq_getElem hlt,fun m hm=>hwt m ?_⟩
   simp only [DataW.weights,ht]
   refine DataW.weights_mem_each (j:=i) (t:=f.type) (d:=xs[i].1) ?_ ?_ m hm
   · rw [List.getElem?_map,hi];rfl
   · rw [List.getElem?_map,List.getElem?_eq_getElem hlt];rfl
 exact ⟨y,h1,by simpa using h2⟩
theorem ST {P:Program} {t:TypeId} {ts:List TypeId} {X Y:Type} {a:X→AV} {ok:X→Prop} {ec':Y→List AV} {ok':Y→Prop} (hg:fv P t=some false) (h:RdZ P t (fun y=>[a y]) ok) (r:Qj P ts ec' ok') :
   Qj P (t::ts) (fun y:X×Y=>a y.1::ec' y.2) (fun y=>ok y.1∧ok' y.2):=fun H enc w base vs ds ps hok hx hwt=>by
 obtain ⟨v,vs',d,ds',p,q,rfl,rfl,rfl,h1,h2⟩:=trodAll_cons hx
 obtain ⟨fuel,h1⟩:=h1
 obtain ⟨y,h3,h4⟩:=h H enc w fuel _ _ h1 (fun n hn=>hwt n (by rw [DataW.weightsEach];exact List.mem_append_left _ hn))
 obtain ⟨z,h5,h6⟩:=r H enc w base vs' ds' q (fun j t v a b=>hok (j+1) t v a b) h2 (fun n hn=>hwt n (by rw [DataW.weightsEach];exact List.mem_append_right _ hn))
 refine ⟨(y,z),⟨h3,h5⟩,?_⟩
 rw [PH hg (hok 0 t v rfl rfl)] at h4
 simp only [VRL] at h4 ⊢
 obtain ⟨x,xs,e,h7,_⟩:=h4
 cases e
 exact ⟨v,vs',rfl,h7,h6⟩
end Go.Proofs.YtolfghcbbpcciaaGreatDoor.Av
set_option maxRecDepth 100000
namespace Go.Proofs.YtolfghcbbpcciaaGreatDoor.Av
open Go
variable {L:List Blk} {K:AV→List Blk→Prop}
def mm:LSO:=[Ab 2 0]
def ml:LSO:=[Aa 8 0,o1 9 (.call 38 [(iv 4),(tm 8)]),Aa 7 9,Ar 10 7,As 11 7,Aa 3 10,Aa 4 11]
def mj:LSO:=[Aa 12 4,Ax 13 12,Aa 14 13,.grp none 14 false
 [Af 15 14 0,Bw 16 14 15 0,og 17 14 false (.bin .eql (tm 16) (.av (.int .u8 45)))]
 18 (tm 17),Aa 19 18,.grp none 19 false
 [Af 20 19 0,Ba 21 19 20,A3 22 19 21 16]
 23 (tm 22)]
def mi:LSO:=[Ab 2 (-1)]
def mh:LSO:=[Ab 5 0]
def mg:LSO:=[Ab 6 0]
def mf:LSO:=[Aa 24 6,Aa 25 0,Ap 26 25,Aj 27 24 26]
def me:LSO:=[Aa 30 5,o1 31 (.bin .mul (iv 10) (tm 30)),Aa 32 0,Aa 33 6,A0 34 32 33,Bl 35 34,AZ 36 35,AE 37 31 36,Aa 5 37]
def md:LSO:=[Aa 28 6,Ag 29 28 1,Aa 6 29]
def mc:LSO:=[Aa 38 5,Aa 2 38]
def bZ:ba:=⟨39,(.seq (.sreg mm [])
 (.seq (.sreg ml Cb)
 (.seq (.seq (.sreg mj BZ)
 (.cond (tm 23) (.seq (.sreg mi [])
 .ret)
 .skip))
 (.seq (.sreg mh [])
 (.seq (.seq (.sreg mg [])
 (.block 0 (.loop (.seq (.seq (.sreg mf BX)
 (.cond (tm 27) .skip
 (.exit 0)))
 (.seq (.block 1 (.sreg me Cl))
 (.sreg md BW))))))
 (.seq (.sreg mc BV)
 .ret)))))),[(.tmp 2)]⟩
attribute [push_cast] mm ml mj mi mh mg mf me md mc
theorem eY:bb Tryz.prog (fun _ _=>1) 45=some bZ.raw:=by kernel_rfl
def vG:LSO:=[Ah 2]
def vF:LSO:=[Aa 3 0,AS 4 3 0,Aa 5 4,.grp none 5 true
 [Ae 6 5 0,og 7 5 true (.bin .leq (tm 6) (iv 9007199254740991))]
 8 (tm 7),Aa 2 8]
def p5:ba:=⟨9,(.seq (.sreg vG [])
 (.seq (.sreg vF BY)
 .ret)),[(.tmp 2)]⟩
attribute [push_cast] vG vF
theorem J8:bb Tryz.prog (fun _ _=>1) 46=some p5.raw:=by kernel_rfl
def qP:LSO:=[Ai 4]
def qO:LSO:=[Ai 5]
def qN:LSO:=[Aa 12 0,Aa 13 1,Ay 14 21 12 13,Ak 15 14,Ab 16 0]
def qM:LSO:=[Aj 17 16 15]
def qL:LSO:=[Ao 18 1 14 16,Ac 19 1 18,Aa 7 19]
def qK:LSO:=[Aa 20 1,o1 21 (.bin .eql (tm 20) (.av (.str [112,119,100,102,97,105,108,117,114,101])))]
def qJ:LSO:=[Ab 8 0]
def qI:LSO:=[Aa 22 8,Aa 23 7,Ap 24 23,Aj 25 22 24,Aa 26 25,.grp none 26 true
 [Ae 27 26 7,Ae 28 26 8,AF 29 26 27 28,og 30 26 true (.bin .neq (tm 29) (.av (.int .u8 46)))]
 31 (tm 30)]
def qH:LSO:=[Aa 32 8,Ag 33 32 1,Aa 8 33]
def qG:LSO:=[Aa 34 8,Aa 35 7,Ap 36 35,A9 37 34 36,Aa 38 37,.grp none 38 false
 [Af 39 38 8,BT 40 38 39 3,Af 41 38 7,Ba 42 38 41,og 43 38 false (.bin .lss (tm 40) (tm 42))]
 44 (tm 43),Aa 45 44,.grp none 45 false
 [Af 46 45 7,Af 47 45 8,BT 48 45 47 1,og 49 45 false (.slS (tm 46) (some (tm 48)) none),AL 50 45 45 49,BF 51 45 50 0]
 52 (tm 51)]
def mb:LSO:=[Aa 53 7,Aa 54 8,o1 55 (.slS (tm 53) none (some (tm 54))),Aa 7 55]
def ma:LSO:=[Aa 56 7,Al 57 45 56,Aa 9 57]
def l9:LSO:=[Aa 58 9,Al 59 46 58,Ax 60 59]
def l8:LSO:=[Aa 61 5,Ak 62 61,Aa 10 62]
def l7:LSO:=[Aa 63 10,Az 64 63 0,Aa 65 64,.grp none 65 true
 [Ae 66 65 5,Ae 67 65 10,B6 68 65 67 1,Bo 69 65 1 66 68,AU 70 65 1 69,Ae 71 65 9,og 72 65 true (.bin .gtr (tm 70) (tm 71))]
 73 (tm 72)]
def l6:LSO:=[Aa 74 10,AA 75 74 1,Aa 10 75]
def l5:LSO:=[Ai 11]
def l4:LSO:=[Aa 76 11,Aa 77 5,Aa 78 10,o1 79 (.slV 1 (tm 77) none (some (tm 78)) none),BU 80 76 79,Aa 11 80]
def lZ:LSO:=[Aa 81 11,Aa 82 9,Bu 83 82,BU 84 81 83,Aa 11 84]
def lY:LSO:=[Aa 85 11,Aa 86 5,Aa 87 10,o1 88 (.slV 1 (tm 86) (some (tm 87)) none none),BU 89 85 88,Aa 11 89]
def lW:LSO:=[Aa 90 11,Aa 5 90]
def lV:LSO:=[Ag 91 16 1,Aa 16 91]
def lU:LSO:=[Aa 92 5,Aa 4 92]
def kU:ba:=⟨93,(.seq (.sreg qP [])
 (.seq (.sreg qO [])
 (.seq (.seq (.sreg qN Cp)
 (.block 0 (.loop (.seq (.sreg qM [])
 (.seq (.cond (tm 17) .skip
 (.exit 0))
 (.seq (.block 1 (.seq (.sreg qL BW)
 (.seq (.seq (.sreg qK BV)
 (.cond (tm 21) (.seq (.sreg qJ [])
 (.seq (.block 2 (.loop (.seq (.seq (.sreg qI BZ)
 (.cond (tm 31) .skip
 (.exit 2)))
 (.block 3 (.sreg qH BW)))))
 (.seq (.seq (.sreg qG Ce)
 (.cond (tm 52) (.exit 1)
 .skip))
 (.sreg mb BX))))
 .skip))
 (.seq (.sreg ma BW)
 (.seq (.seq (.sreg l9 BW)
 (.cond (tm 60) (.exit 1)
 .skip))
 (.seq (.sreg l8 BW)
 (.seq (.block 4 (.loop (.seq (.seq (.sreg l7 BX)
 (.cond (tm 73) .skip
 (.exit 4)))
 (.block 5 (.sreg l6 BW)))))
 (.seq (.sreg l5 [])
 (.seq (.sreg l4 BZ)
 (.seq (.sreg lZ BY)
 (.seq (.sreg lY BZ)
 (.sreg lW BV))))))))))))
 (.sreg lV BV)))))))
 (.seq (.sreg lU BV)
 .ret)))),[(.tmp 4)]⟩
attribute [push_cast] qP qO qN qM qL qK qJ qI qH qG mb ma l9 l8 l7 l6 l5 l4 lZ lY lW lV lU
theorem I1:bb Tryz.prog (fun _ _=>1) 25=some kU.raw:=by kernel_rfl
def v6:LSO:=[Bk 2]
def vZ:LSO:=[o1 6 (.build [(.sl [] 0 (some 0)),(.int .i64 0),(.int .i64 0)] [(1,(1,(iv (-1))))]),Bk 3,An 3 3 6]
def vY:LSO:=[Aa 7 0,o1 8 (.call 25 [(tm 7),(.av (.str [112,119,100,102,97,105,108,117,114,101]))]),Ad 9 0 3,An 1 9 8]
def vX:LSO:=[Ad 10 0 3,Ac 11 1 10,Ak 12 11,Az 13 12 100]
def vW:LSO:=[Ad 14 0 3,Ac 15 1 14,o1 16 (.slV 1 (tm 15) (some (iv 1)) none none),Ad 17 0 3,An 1 17 16]
def vV:LSO:=[Aa 18 0,o1 19 (.call 25 [(tm 18),(.av (.str [112,119,100,108,111,99,107,101,100]))]),Aa 4 19]
def vU:LSO:=[Aa 20 4,Ak 21 20,Az 22 21 0]
def vT:LSO:=[Aa 23 4,Aa 24 4,Ak 25 24,AA 26 25 1,Ao 27 1 23 26,Ac 28 1 27,Ad 29 1 3,An 1 29 28]
def vS:LSO:=[Aa 30 0,o1 31 (.call 25 [(tm 30),(.av (.str [112,119,100,99,104,97,110,103,101,100]))]),Aa 5 31]
def vR:LSO:=[Aa 32 5,Ak 33 32,Az 34 33 0]
def qR:LSO:=[Aa 35 5,Aa 36 5,Ak 37 36,AA 38 37 1,Ao 39 1 35 38,Ac 40 1 39,Ad 41 2 3,An 1 41 40]
def qQ:LSO:=[Au 42 3 3,An 3 2 42]
def p7:ba:=⟨43,(.seq (.sreg v6 [])
 (.seq (.sreg vZ BV)
 (.seq (.sreg vY [false,false,false])
 (.seq (.block 0 (.loop (.seq (.seq (.sreg vX BX)
 (.cond (tm 13) .skip
 (.exit 0)))
 (.block 1 (.sreg vW [false,false,false,false])))))
 (.seq (.sreg vV BW)
 (.seq (.seq (.sreg vU BW)
 (.cond (tm 22) (.sreg vT Ci)
 .skip))
 (.seq (.sreg vS BW)
 (.seq (.seq (.sreg vR BW)
 (.cond (tm 34) (.sreg qR Ci)
 .skip))
 (.seq (.sreg qQ [false])
 .ret))))))))),[(.cell true 3 2)]⟩
attribute [push_cast] v6 vZ vY vX vW vV vU vT vS vR qR qQ
theorem Ka:bb Tryz.prog (fun _ _=>1) 12=some p7.raw:=by kernel_rfl
def gP:LSO:=[Ah 2]
def gO:LSO:=[Aa 5 0,Al 6 5 5,Ax 7 6]
def gN:LSO:=[Bb 8 6,Aa 2 8]
def gM:LSO:=[Bb 10 8,Aa 11 0,Ay 12 7 10 11,Aa 9 12,Ar 13 9,As 14 9,Aa 3 13,Aa 4 14]
def gL:LSO:=[Aa 15 4,A7 16 15 0]
def gK:LSO:=[Bb 17 6,Aa 2 17]
def gJ:LSO:=[Bb 18 6,Aa 19 18,.grp none 19 true
 [Ae 20 19 3,A5 21 19 11 20,A5 22 19 10 21,Ae 23 19 3,A5 24 19 12 23,BA 25 19 9 22 24]
 26 (tm 25),Aa 2 26]
def fB:ba:=⟨27,(.seq (.sreg gP [])
 (.seq (.seq (.sreg gO BW)
 (.cond (tm 7) (.seq (.sreg gN BV)
 .ret)
 .skip))
 (.seq (.sreg gM Cm)
 (.seq (.seq (.sreg gL BV)
 (.cond (tm 16) (.seq (.sreg gK BV)
 .ret)
 .skip))
 (.seq (.sreg gJ BX)
 .ret))))),[(.tmp 2)]⟩
attribute [push_cast] gP gO gN gM gL gK gJ
theorem qo:bb Tryz.prog (fun _ _=>1) 3=some fB.raw:=by kernel_rfl
set_option maxHeartbeats 8000000
set_option maxRecDepth 100000
def IM (ts:List Typ):List Atr→List Atr→List Atr×Int
 | out,[]=>(out,0)
 | out,a::t=>match gU ts a.1 with
   | none=>([],17)
   | some ty=>if a.2=[] then ([],19) else
     if (cf ty.2.1 ty.2.2.1 (bm out a.1) a.2).2≠0 then ([],(cf ty.2.1 ty.2.2.1 (bm out a.1) a.2).2)
     else IM ts (dN ty.1 (cf ty.2.1 ty.2.2.1 (bm out a.1) a.2).1 (cf ty.2.1 ty.2.2.1 (bm out a.1) a.2).1.isEmpty out) t
section
variable {α:Type} (key:α→List UInt8)
end
theorem Tg (syn:Int) (v:List UInt8) (l:List (List UInt8)):d9 syn v false l≠[]:=by
 rcases l with _|⟨x,t⟩
 · simp [d9]
 · simp [d9]
theorem QX {syn:Int} {single:Bool}:∀ {vs l:List (List UInt8)},l≠[]∨vs≠[]→(cf syn single l vs).2=0→(cf syn single l vs).1≠[]
 | [],l,h,h0=>by
   rw [cf] at h0 ⊢
   split
   · rename_i hc;rw [if_pos hc] at h0;cases h0
   · rcases h with h|h
     · exact h
     · exact absurd rfl h
 | v::vs,l,h,h0=>by
   rw [cf] at h0 ⊢
   rcases hv:bX syn v with _|n
   · rw [hv] at h0;cases h0
   · rw [hv] at h0
     simp only at h0 ⊢
     split
     · rename_i hc;rw [if_pos hc] at h0;cases h0
     · rename_i hc
       rw [if_neg hc] at h0
       exact QX (.inl (Tg syn v l)) h0
theorem QJ {ts:List Typ}:∀ {l out:List Atr},InA ts out→(IM ts out l).2=0→InA ts (IM ts out l).1
 | [],out,h,_=>h
 | a::t,out,h,h0=>by
   rw [IM] at h0 ⊢
   rcases ht:gU ts a.1 with _|ty
   · rw [ht] at h0;cases h0
   · rw [ht] at h0
     simp only at h0 ⊢
     split
     · rename_i hc;rw [if_pos hc] at h0;cases h0
     · rename_i hc
       rw [if_neg hc] at h0
       split
       · rename_i hd;rw [if_pos hd] at h0;exact absurd h0 hd
       · rename_i hd
         rw [if_neg hd] at h0
         simp only [ne_eq,Decidable.not_not] at hd
         have hne:=QX (l:=bm out a.1) (.inr hc) hd
         have hem:(cf ty.2.1 ty.2.2.1 (bm out a.1) a.2).1.isEmpty=false:=by simpa using hne
         rw [hem] at h0 ⊢
         have hts:=i7 ht
         exact QJ (Qu h (by rw [C3 hts.2];exact ht) rfl hne (N0 (Qq h ht) hd) (CS hd)) h0
variable {L:List Blk} {K:AV→List Blk→Prop}
def vB (v:List UInt8):Int:=if cW v=true∧0≤cI v∧v.length≤16 then cI v else -1
theorem OC {v:List UInt8} (h:cW v=true):Lib.itoa (cI v)=v∧I64 (cI v):=by
 unfold cW at h
 unfold cI
 split at h
 · rename_i n e
   simp only [e]
   exact ⟨of_decide_eq_true h,z6 e⟩
 · cases h
theorem QF {v:List UInt8} (h:cW v=true) (h0:0≤cI v):v=Lib.decDigits (cI v).toNat:=by
 obtain ⟨h1,_⟩:=OC h
 unfold Lib.itoa at h1
 rw [if_neg (by omega)] at h1
 exact h1.symm
theorem QE {v:List UInt8} (h:cW v=true) (h0:0≤cI v):1≤v.length∧cI v<10 ^ v.length∧(v.length≤1∨10 ^ (v.length - 1)≤cI v):=by
 have e:=QF h h0
 obtain ⟨u,hu⟩:∃ u,(cI v).toNat=u:=⟨_,rfl⟩
 have hn:cI v=(u:Int):=by omega
 rw [hu] at e
 obtain ⟨_,_,h3,h4⟩:=KG u
 obtain ⟨c,r,e2,_⟩:=iJ u
 have hl:1≤(Lib.decDigits u).length:=by rw [e2];simp
 have hv:v.length=(Lib.decDigits u).length:=congrArg List.length e
 rw [hv,hn]
 refine ⟨hl,by exact_mod_cast h3,?_⟩
 by_cases h1:1≤u
 · exact .inr (by exact_mod_cast h4 h1)
 · left
   have:u=0:=by omega
   subst this
   simp [Lib.decDigits]
theorem K9 {a b:Nat} (h:a≤b):(10:Int) ^ a≤10 ^ b:=by
 have:=Nat.pow_le_pow_right (n:=10) (by omega) h
 exact_mod_cast this
theorem Rx (v:List UInt8):ju 9007199254740991 v=if 0≤vB v∧vB v≤9007199254740991 then some (vB v) else none:=by
 unfold ju vB
 by_cases h:cW v=true∧0≤cI v
 · obtain ⟨h1,h2⟩:=h
   obtain ⟨l1,l2,l3⟩:=QE h1 h2
   by_cases h3:cI v≤9007199254740991
   · have h4:v.length≤16:=by
       rcases l3 with l3|l3
       · omega
       · have q:¬ 16≤v.length - 1:=fun e=>by
           have:=K9 e
           have e2:(10:Int) ^ 16=10000000000000000:=by decide
           omega
         omega
     rw [if_pos ⟨by omega,h1,h2,h3⟩,if_pos (c:=cW v=true∧_) ⟨h1,h2,h4⟩,if_pos ⟨h2,h3⟩]
   · rw [if_neg (by omega)]
     by_cases h4:v.length≤16
     · rw [if_pos (c:=cW v=true∧_) ⟨h1,h2,h4⟩,if_neg (by omega)]
     · rw [if_neg (c:=cW v=true∧_) (by omega),if_neg (by omega)]
 · rw [if_neg (by intro q;exact h ⟨q.2.1,q.2.2.1⟩),if_neg (c:=cW v=true∧_) (by intro q;exact h ⟨q.1,q.2.1⟩),if_neg (by omega)]
theorem S1 (v:List UInt8):(ju 99 v).isSome=(decide (v.length≤2) && decide (0≤vB v)):=by
 unfold ju vB
 by_cases h:cW v=true∧0≤cI v
 · obtain ⟨h1,h2⟩:=h
   obtain ⟨l1,l2,l3⟩:=QE h1 h2
   by_cases h3:cI v≤99
   · have h4:v.length≤2:=by
       rcases l3 with l3|l3
       · omega
       · have q:¬ 2≤v.length - 1:=fun e=>by
           have:=K9 e
           have e2:(10:Int) ^ 2=100:=by decide
           omega
         omega
     rw [if_pos ⟨by omega,h1,h2,h3⟩,if_pos (c:=cW v=true∧_) ⟨h1,h2,by omega⟩]
     simp [h4,h2]
   · have h4:¬ v.length≤2:=fun e=>by
       have:=K9 e
       have e2:(10:Int) ^ 2=100:=by decide
       omega
     rw [if_neg (by omega)]
     simp [h4]
 · rw [if_neg (by intro q;exact h ⟨q.2.1,q.2.2.1⟩),if_neg (c:=cW v=true∧_) (by intro q;exact h ⟨q.1,q.2.1⟩)]
   simp
theorem Wh {out:List Int} {k:Nat} {n:Int} (h:out.Pairwise (·≤·)) (h1:∀ x∈out.take k,x≤n) (h2:∀ x∈out.drop k,n≤x):(out.take k++n::out.drop k).Pairwise (·≤·)∧(out.take k++n::out.drop k).Perm (n::out):=by
 refine ⟨?_,?_⟩
 · rw [List.pairwise_append]
   refine ⟨h.sublist (List.take_sublist ..),List.pairwise_cons.2 ⟨h2,h.sublist (List.drop_sublist ..)⟩,?_⟩
   intro a ha b hb
   rcases List.mem_cons.1 hb with rfl|hb
   · exact h1 a ha
   · exact Int.le_trans (h1 a ha) (h2 b hb)
 · refine List.perm_middle.trans ?_
   rw [List.take_append_drop]
end Go.Proofs.YtolfghcbbpcciaaGreatDoor.Av
set_option maxRecDepth 100000
namespace Go.Proofs.YtolfghcbbpcciaaGreatDoor.Av
open Go
variable {L:List Blk} {K:AV→List Blk→Prop}
def xu:LSO:=[A6 2 0,Ai 4,Ab 5 0]
def xt:LSO:=[Ai 6]
def xr:LSO:=[Aa 12 1,Ak 13 12,Ab 14 0]
def xq:LSO:=[Aj 15 14 13]
def xp:LSO:=[Ao 16 2 12 14,Au 17 2 16,Br 8,An 2 8 17]
def xo:LSO:=[Ad 18 0 2,Ac 19 1 18,Ad 20 0 8,Ac 21 1 20,Ay 22 19 19 21,Aa 9 22]
def xn:LSO:=[Aa 23 9,AK 24 23 0]
def xm:LSO:=[Ai 4,Ab 5 17]
def xl:LSO:=[Ad 25 1 8,Ac 26 1 25,Ak 27 26,Aq 28 27 0]
def xk:LSO:=[Ai 4,Ab 5 19]
def ra:LSO:=[Ad 30 0 2,Ac 31 1 30,Aa 32 9,Ao 33 4 31 32,Au 34 4 33,Aa 35 6,Ad 36 0 8,Ac 37 1 36,Ay 38 21 35 37,Ad 39 1 8,Ac 40 1 39,AM 41 20 34 38 40,Aa 29 41,
 Ar 42 29,As 43 29,Aa 10 42,Aa 11 43]
def q9:LSO:=[Aa 44 11,A7 45 44 0]
def q0:LSO:=[Aa 46 11,Ai 4,Aa 5 46]
def qZ:LSO:=[Aa 47 6,Ad 48 0 2,Ac 49 1 48,Aa 50 9,Ao 51 4 49 50,Ad 52 0 51,Ac 53 1 52,Aa 54 10,AM 55 22 47 53 54,Aa 6 55]
def qY:LSO:=[Ag 56 14 1,Aa 14 56]
def qX:LSO:=[Aa 57 6,Aa 4 57,Ab 5 0]
def qb:ba:=⟨58,(.seq (.sreg xu [])
 (.seq (.sreg xt [])
 (.seq (.seq (.sreg xr [])
 (.block 0 (.loop (.seq (.sreg xq [])
 (.seq (.cond (tm 15) .skip
 (.exit 0))
 (.seq (.block 1 (.seq (.sreg xp BW)
 (.seq (.sreg xo BZ)
 (.seq (.seq (.sreg xn BV)
 (.cond (tm 24) (.seq (.sreg xm [])
 .ret)
 .skip))
 (.seq (.seq (.sreg xl BX)
 (.cond (tm 28) (.seq (.sreg xk [])
 .ret)
 .skip))
 (.seq (.sdreg ra [.pure,(.read 0 0),.pure,(.read 0 0),(.read 0 0),.pure,.pure,(.read 0 0),(.read 0 0),.pure,(.read 0 0),(.read 0 0),.pure,.pure,.pure,.pure] [true,true,false,false,false,false,false,false,false,false,false,false,false,false,false,false,false])
 (.seq (.seq (.sreg q9 BV)
 (.cond (tm 45) (.seq (.sreg q0 Ca)
 .ret)
 .skip))
 (.sreg qZ Cv))))))))
 (.sreg qY BV)))))))
 (.seq (.sreg qX Ca)
 .ret)))),[(.tmp 4),(.tmp 5)]⟩
attribute [push_cast] xu xt xr xq xp xo xn xm xl xk ra q9 q0 qZ qY qX
theorem Kf:bb Tryz.prog (fun _ _=>1) 7=some qb.raw:=by kernel_rfl
set_option maxHeartbeats 8000000
set_option maxRecDepth 100000
theorem SI {v:List UInt8} (h:K (.tup [.str ((bX 4 v).getD []),.bool (bX 4 v).isSome]) L):ao Tryz.prog 38 [.int .i64 4,.str v] L K:=by
 refine jP ?_
 revert h
 rcases bX 4 v with _|c<;>exact fun h=>h
theorem PI {s:List UInt8} {i:Nat} {c:UInt8} (h:i<s.length) (hc:s.getD i 0=c):b9 0 (s.take (i+1))=10 * b9 0 (s.take i)+(c.toNat - 48):=by
 rw [List.take_succ_eq_append_getElem h]
 have:s[i]=c:=by rw [← hc];simp [h]
 rw [this]
 simp [b9]
theorem Jn {v:List UInt8} (hv:(v.length:Int)≤1100000) (h:K (.int .i64 (vB v)) L):ao Tryz.prog 45 [.str v] L K:=by
 obtain ⟨r1,hr1⟩:∃ r,(bX 4 v).getD []=r:=⟨_,rfl⟩
 obtain ⟨b1,hb1⟩:∃ b,(bX 4 v).isSome=b:=⟨_,rfl⟩
 have kk1:Hid (Ctr Tryz.prog 38 [.int .i64 4,.str v] (.tup [.str r1,.bool b1])):=hid fun q=>SI (by rw [hr1,hb1];exact q)
 rw [Ta] at hb1
 cases b1 with
 | false =>
   have e:vB v=-1:=by
     unfold vB
     rw [if_neg]
     rintro ⟨h1,h2,h3⟩
     rw [h1,decide_eq_true (by omega)] at hb1
     cases hb1
   rw [e] at h
   replace h:=hid h
   clear hb1 e hr1
   refine ag eY (by simp [bZ]) ?_
   simp only [bZ,aN]
   refine wk ?_
   exact ab h.out
 | true =>
 simp only [Bool.and_eq_true,decide_eq_true_eq] at hb1
 obtain ⟨hl,hok⟩:=hb1
 obtain ⟨hio,hi64⟩:=OC hok
 clear hr1
 by_cases hneg:cI v<0
 · have e:vB v=-1:=by
     unfold vB
     rw [if_neg (by omega)]
   obtain ⟨t,ht⟩:∃ t,v=45::t:=⟨Lib.decDigits (cI v).natAbs,by
     have:=hio.symm
     unfold Lib.itoa at this
     rwa [if_pos hneg] at this⟩
   subst ht
   rw [e] at h
   replace h:=hid h
   clear hio hi64 hok e hneg
   refine ag eY (by simp [bZ]) ?_
   simp only [bZ,aN]
   refine wk ?_
   exact ab h.out
 have hd:=QF hok (by omega)
 obtain ⟨c1,r,e1,c2,c3,_⟩:=iJ (cI v).toNat
 obtain ⟨d1,d2,d3,d4⟩:=KG (cI v).toNat
 rw [← hd] at d1 d2 d3 d4 e1
 have f45:∀ t,v≠45::t:=by
   rintro t rfl
   cases e1
   exact absurd c2 (by decide)
 have hne:v≠[]:=by rw [e1];simp
 have hpos:0<v.length:=List.length_pos_iff.2 hne
 have h45:¬ (v.getD 0 0)=45:=by
   rw [e1]
   simp only [List.getD_cons_zero]
   rintro rfl
   exact absurd c2 (by decide)
 obtain ⟨n,hn⟩:∃ n:Nat,cI v=(n:Int):=⟨(cI v).toNat,by omega⟩
 by_cases h16:16<v.length
 · have e:vB v=-1:=by
     unfold vB
     rw [if_neg (by omega)]
   rw [e] at h
   have g1:(16:Int)<(v.length:Int):=by omega
   have g2:(0:Int)<(v.length:Int):=by omega
   obtain ⟨x,hx⟩:∃ x:Nat,(v.getD 0 0).toNat=x:=⟨_,rfl⟩
   have hx45:¬ (x:Int)=45:=fun e=>h45 (UInt8.toNat_inj.1 (by rw [hx];show x=45;omega))
   replace h:=hid h
   clear hio hi64 hok e hneg d1 d2 d3 d4 e1 f45 h45 hd
   refine ag eY (by simp [bZ]) ?_
   simp only [bZ,aN]
   refine wk ?_
   exact ab h.out
 have e:vB v=(n:Int):=by
   unfold vB
   rw [if_pos ⟨hok,by omega,by omega⟩,hn]
 rw [e] at h
 have hnv:b9 0 v=n:=by rw [d1];omega
 have g1:¬ (16:Int)<(v.length:Int):=by omega
 have g2:(0:Int)<(v.length:Int):=by omega
 obtain ⟨x,hx⟩:∃ x:Nat,(v.getD 0 0).toNat=x:=⟨_,rfl⟩
 have hx45:¬ (x:Int)=45:=fun e=>h45 (UInt8.toNat_inj.1 (by rw [hx];show x=45;omega))
 replace h:=hid h
 replace hdig:=hid d2
 have hl16:v.length≤16:=by omega
 clear hio hi64 hok e hneg d1 d2 d3 d4 e1 f45 h45 hd hn h16
 refine ag eY (by simp [bZ]) ?_
 simp only [bZ,aN]
 refine wk ?_
 refine aI (fun m T' L'=>∃ (i n:Nat),m=v.length - i∧i≤v.length∧n<10 ^ i∧Hid (n=b9 0 (v.take i))∧T'=[(6,.int .i64 (i:Int)),(5,.int .i64 (n:Int)),(0,.str v)]∧L=L') (CutS (b:=Nat.le_refl _)) ⟨0,0,rfl,Nat.zero_le _,by decide,hid rfl,rfl,rfl⟩ ?_
 rintro _ _ _ ⟨i,m,rfl,hi,hm,hI,rfl,rfl⟩
 clear hx hx45 x
 by_cases hlt:i<v.length
 · have g3:(i:Int)<(v.length:Int):=by omega
   have g4:IntKind.i64.wrap ((i:Int)+1)=(i:Int)+1:=ac (by omega) (by omega)
   obtain ⟨c,hc⟩:∃ c,v.getD i 0=c:=⟨_,rfl⟩
   have hm2:=hdig.out c (by rw [← hc];simp [hlt])
   simp only [dv,Bool.and_eq_true,decide_eq_true_eq] at hm2
   have htk:=PI hlt hc
   obtain ⟨x,hx⟩:∃ x:Nat,c.toNat=48+x:=⟨c.toNat - 48,by omega⟩
   have hx9:x≤9:=by omega
   have hxi:(c.toNat:Int)=48+(x:Int):=by omega
   have hn4:m<10 ^ 15:=Nat.lt_of_lt_of_le hm (Nat.pow_le_pow_right (by omega) (by omega))
   have hn5:m<1000000000000000:=hn4
   have hnx:b9 0 (v.take (i+1))=10 * m+x:=by rw [htk,← hI.out];omega
   have w1:IntKind.u8.wrap (48+(x:Int) - 48)=(x:Int):=by rw [bQ (by omega) (by omega)];omega
   have w2:IntKind.i64.wrap (x:Int)=(x:Int):=ac (by omega) (by omega)
   have w3:IntKind.i64.wrap (10 * (m:Int))=10 * (m:Int):=ac (by omega) (by omega)
   have w4:IntKind.i64.wrap (10 * (m:Int)+(x:Int))=10 * (m:Int)+(x:Int):=ac (by omega) (by omega)
   have hnn:10 * m+x<10 ^ (i+1):=by rw [Nat.pow_succ];omega
   replace hnx:=hid hnx
   clear hm2 htk hx hn4
   refine wk ?_
   exact az _ _ _ (by omega) (CutL (b:=Nat.le_refl _)) ⟨i+1,10 * m+x,rfl,by omega,hnn,hid hnx.out.symm,rfl,rfl⟩
 · have hke:i=v.length:=by omega
   subst hke
   have g3:¬ (v.length:Int)<(v.length:Int):=by omega
   have e:=hI.out
   rw [List.take_length,hnv] at e
   subst e
   clear hI hnv
   refine wk ?_
   exact ab h.out
theorem Rn {n:Int} (h:K (.bool (cx n)) L):ao Tryz.prog 46 [.int .i64 n] L K:=by
 replace h:=hid h
 refine ag J8 (by simp [p5]) ?_
 simp only [p5,aN]
 refine wk ?_
 exact ab (by simpa [cx] using h.out)
def pD:List UInt8→Nat
 | []=>0
 | c::s=>if c=46 then 0 else pD s+1
theorem QD:∀ x:List UInt8,(∀ j,j<pD x→x.getD j 0≠46)∧((pX x=none∧pD x=x.length)∨(pD x<x.length∧x.getD (pD x) 0=46∧pX x=some (x.take (pD x),x.drop (pD x+1))))
 | []=>⟨fun j hj=>by simp [pD] at hj,.inl ⟨rfl,rfl⟩⟩
 | c::s=>by
   obtain ⟨h1,h2⟩:=QD s
   by_cases hc:c=46
   · subst hc
     exact ⟨fun j hj=>by simp [pD] at hj,.inr ⟨by simp [pD],by simp [pD],by simp [pD,pX]⟩⟩
   · have e:pD (c::s)=pD s+1:=by rw [pD,if_neg hc]
     rw [e]
     refine ⟨fun j hj=>?_,?_⟩
     · cases j with
       | zero=>simpa using hc
       | succ j=>simpa using h1 j (by omega)
     · rcases h2 with ⟨h3,h4⟩|⟨h3,h4,h5⟩
       · exact .inl ⟨by rw [pX,if_neg hc,h3],by simp [h4]⟩
       · refine .inr ⟨by simp;omega,by simpa using h4,?_⟩
         rw [pX,if_neg hc,h5];simp
theorem FM {l:List Atr} {cap:Option Nat} {n:List UInt8} {cnt:Bool} (hc:decide (n=z8)=cnt) (hn:bH n) (hs:Si l) (h:∀ cap,K (.sl (bc (ce cnt (bm l n))) (ce cnt (bm l n)).length cap) L) :
   ao Tryz.prog 25 [.sl (be l) l.length cap,.str n] L K:=by
 have hz:∀ a∈l,bH a.1∧a.2.length≤1100000:=fun a ha=>⟨(hs.2 a ha).1,by have:=(hs.2 a ha).2.1;omega⟩
 have hl:l.length≤1100000:=by have:=hs.1;omega
 have hv:=hs.val n
 obtain ⟨vs,hvs⟩:∃ vs,bm l n=vs:=⟨_,rfl⟩
 have kk1:Hid (Ctr Tryz.prog 21 [.sl (be l) l.length cap,.str n] (FN vs)):=hid fun q=>IG hl hz hn (by rw [hvs];exact q)
 rw [hvs] at hv h
 clear hl hz hvs hs hn
 obtain ⟨hv1,hv2⟩:=hv
 replace hv2:=hid hv2
 replace h:=hid h
 have kt:Hid (∀ {m:Int} {L:List Blk} {K:AV→List Blk→Prop},K (.bool (cx m)) L→ao Tryz.prog 46 [.int .i64 m] L K):=hid fun q=>Rn q
 refine ag I1 (by simp [kU]) ?_
 simp only [kU,aN]
 refine wk ?_
 refine aI (fun m T' L'=>∃ (i:Nat) (out:List Int) (c:Option Nat) (Z:List Blk),m=vs.length - i∧i≤vs.length∧Hid (out.Pairwise (·≤·)∧out.Perm ((vs.take i).filterMap (tmM cnt)))∧T'=[(16,.int .i64 (i:Int)),(15,.int .i64 vs.length),(14,FN vs),(5,.sl (bc out) out.length c),(1,.str n)]∧L'=L++Z) (CutS (b:=by simp)) ⟨0,[],some 0,[],rfl,Nat.zero_le _,hid ⟨List.Pairwise.nil,.refl _⟩,rfl,by simp⟩ ?_
 rintro _ _ _ ⟨i,out,c,Z,rfl,hi,hout,rfl,rfl⟩
 by_cases hlt:i<vs.length
 · have g1:(i:Int)<(vs.length:Int):=by omega
   have g2:IntKind.i64.wrap ((i:Int)+1)=(i:Int)+1:=ac (by omega) (by omega)
   obtain ⟨x,hx⟩:∃ x,vs.getD i []=x:=⟨_,rfl⟩
   have j3:(vs.map AV.str).getD i .undef=.str x:=by rw [← hx];simp [hlt]
   have hxl:x.length≤100000:=hv2.out x (by rw [← hx];simp [hlt])
   have hou2:(vs.take (i+1)).filterMap (tmM cnt)=(vs.take i).filterMap (tmM cnt)++(tmM cnt x).toList:=by
     rw [List.take_succ_eq_append_getElem hlt,List.filterMap_append]
     have:vs[i]=x:=by rw [← hx];simp [hlt]
     rw [this]
     cases h:tmM cnt x<;>simp [List.filterMap,h]
   have hol:out.length≤i:=by
     rw [hout.out.2.length_eq]
     exact Nat.le_trans (List.length_filterMap_le ..) (by simp;try omega)
   have q1:(out.length+1) * 8≤281474976710656:=by omega
   replace hou2:=hid hou2
   clear hx
   iterate 12 first
     | refine aT ?_
     | (first|refine aG (by kernel_rfl) ?_|refine ap (by kernel_rfl) ?_|refine aq ?_|refine aZ ?_|refine aO (fun _=>?_)|refine aj ?_|refine aK ?_)
       simp (config:={ maxSteps:=2000000 }) only [Kon,push_cast,reduceIte,Nat.reduceEqDiff,Nat.reduceAdd,Nat.reduceMul,Nat.reduceSub,Nat.reduceLT,Nat.reduceLeDiff,Int.reduceLT,Int.reduceLE,Int.reduceAdd,Int.reduceSub,Int.reduceNeg,Int.reduceToNat,Int.reduceEq,reduceCtorEq, *]
     | (first|refine aC (by kernel_rfl) ?_|refine aH ?_|refine aJ ?_|refine aU (ai ?_))
       simp only [push_cast,reduceIte,Nat.reduceEqDiff,Nat.reduceAdd,Nat.reduceMul,Nat.reduceSub,Nat.reduceLT,Nat.reduceLeDiff,Int.reduceLT,Int.reduceLE,Int.reduceAdd,Int.reduceSub,Int.reduceNeg,Int.reduceToNat,Int.reduceEq,reduceCtorEq, *]
     | exact aP
     | first|apply aQ|apply aD|apply aR|apply aE|apply aS|apply aF
     | refine aw ?_
     | first|refine ar rfl ?_|refine au rfl ?_|refine af rfl ?_ ?_|refine ay rfl (fun _=>?_) (fun _=>?_)|refine ax rfl (fun _=>?_) (fun _=>?_)
     | ((first|refine ae (fun _=>?_) (fun _=>?_)|refine ah (fun _=>?_) (fun _=>?_))<;>try simp (config:={ maxSteps:=2000000 }) only [Kon,push_cast,reduceIte,Nat.reduceEqDiff,Nat.reduceAdd,Nat.reduceMul,Nat.reduceSub,Nat.reduceLT,Nat.reduceLeDiff,Int.reduceLT,Int.reduceLE,Int.reduceAdd,Int.reduceSub,Int.reduceNeg,Int.reduceToNat,Int.reduceEq,reduceCtorEq, *])
     | refine And.intro trivial ?_
     | refine And.intro (by omega) ?_
     | refine aA rfl (fun _=>?_) (fun _=>?_)
     | refine And.intro ?_ ?_
   refine qt (fun T2 L2=>∃ y,Hid (ju 9007199254740991 y=tmM cnt x∧y.length≤x.length)∧T2=[(7,.str y),(16,.int .i64 (i:Int)),(15,.int .i64 vs.length),(14,FN vs),(5,.sl (bc out) out.length c),(1,.str n)]∧L2=L++Z) ?_ ?_
   · cases cnt with
     | false =>
       refine wk ?_
       exact fC _ _ (CutL (b:=by simp)) ⟨x,hid ⟨rfl,Nat.le_refl _⟩,rfl,rfl⟩
     | true =>
       obtain ⟨hp1,hp2⟩:=QD x
       obtain ⟨p,hp⟩:∃ p,pD x=p:=⟨_,rfl⟩
       rw [hp] at hp1 hp2
       have hpl:p≤x.length:=by rcases hp2 with h|h<;>omega
       replace hp1:=hid hp1
       replace hp2:=hid hp2
       clear hp
       refine wk ?_
       refine aI (fun m T' L'=>∃ a:Nat,m=p - a∧a≤p∧T'=[(8,.int .i64 (a:Int)),(7,.str x),(16,.int .i64 (i:Int)),(15,.int .i64 vs.length),(14,FN vs),(5,.sl (bc out) out.length c),(1,.str n)]∧L'=L++Z) (CutS (b:=by simp)) ⟨0,rfl,Nat.zero_le _,rfl,rfl⟩ ?_
       rintro _ _ _ ⟨a,rfl,ha,rfl,rfl⟩
       by_cases hap:a<p
       · have e1:(a:Int)<(x.length:Int):=by omega
         have e2:IntKind.i64.wrap ((a:Int)+1)=(a:Int)+1:=ac (by omega) (by omega)
         have e3:=hp1.out a hap
         obtain ⟨b,hb⟩:∃ b:Nat,(x.getD a 0).toNat=b:=⟨_,rfl⟩
         have e4:¬ (b:Int)=46:=fun e=>e3 (UInt8.toNat_inj.1 (by rw [hb];show b=46;omega))
         clear e3
         refine wk ?_
         exact az _ _ _ (by omega) (CutL (b:=by simp)) ⟨a+1,rfl,hap,rfl,rfl⟩
       have hae:a=p:=by omega
       subst hae
       rcases hp2.out with ⟨hcd,hpe⟩|⟨hpl2,hp46,hcd⟩
       · have htn:tmM true x=none:=by simp only [tmM,if_true,hcd]
         subst hpe
         have e1:¬ (x.length:Int)<(x.length:Int):=by omega
         clear hcd
         refine wk ?_
         exact az _ _ _ (by omega) (CutL (b:=by simp)) ⟨i+1,out,c,Z,rfl,hlt,hid ⟨hout.out.1,by rw [hou2.out,htn];simpa using hout.out.2⟩,rfl,rfl⟩
       · have e1:(a:Int)<(x.length:Int):=by omega
         have e0:¬ (a:Int)=(x.length:Int):=by omega
         have e2:IntKind.i64.wrap ((a:Int)+1)=(a:Int)+1:=ac (by omega) (by omega)
         have e3:IntKind.i64.wrap ((a:Int)+3)=(a:Int)+3:=ac (by omega) (by omega)
         have e5:((x.getD a 0).toNat:Int)=46:=by rw [hp46];rfl
         obtain ⟨ct,hct⟩:∃ ct,x.drop (a+1)=ct:=⟨_,rfl⟩
         have lct:ct.length=x.length - (a+1):=by rw [← hct];simp
         have htm:tmM true x=if (ju 99 ct).isSome=true then ju 9007199254740991 (x.take a) else none:=by simp only [tmM,if_true,hcd,hct]
         rw [S1] at htm
         clear hcd hp46 hp2 hp1
         by_cases h3:a+3<x.length
         · have e6:(a:Int)+3<(x.length:Int):=by omega
           have htn:tmM true x=none:=by rw [htm,decide_eq_false (by omega)];rfl
           clear htm
           refine wk ?_
           exact az _ _ _ (by omega) (CutL (b:=by simp)) ⟨i+1,out,c,Z,rfl,hlt,hid ⟨hout.out.1,by rw [hou2.out,htn];simpa using hout.out.2⟩,rfl,rfl⟩
         have e6:¬ (a:Int)+3<(x.length:Int):=by omega
         obtain ⟨z,hz⟩:∃ z,vB ct=z:=⟨_,rfl⟩
         have kk2:Hid (Ctr Tryz.prog 45 [.str ct] (.int .i64 z)):=hid fun q=>Jn (by omega) (by rw [hz];exact q)
         have g5:(0:Int)≤(a:Int)+1:=by omega
         have g4:(a:Int)+1≤(x.length:Int):=by omega
         have g6:((a:Int)+1).toNat=a+1:=by omega
         have g7:ct.take (x.length - (a+1))=ct:=List.take_of_length_le (by omega)
         rw [decide_eq_true (by omega),hz,Bool.true_and] at htm
         clear hz
         by_cases hz0:z<0
         · have htn:tmM true x=none:=by rw [htm,decide_eq_false (by omega)];rfl
           clear htm
           refine wk ?_
           exact az _ _ _ (by omega) (CutL (b:=by simp)) ⟨i+1,out,c,Z,rfl,hlt,hid ⟨hout.out.1,by rw [hou2.out,htn];simpa using hout.out.2⟩,rfl,rfl⟩
         · have htn:tmM true x=ju 9007199254740991 (x.take a):=by rw [htm,decide_eq_true (by omega)];rfl
           clear htm
           replace htn:=hid htn
           have e7:(0:Int)≤(a:Int):=by omega
           have e8:(a:Int)≤(x.length:Int):=by omega
           refine wk ?_
           exact fC _ _ (CutL (b:=by simp)) ⟨x.take a,hid ⟨htn.out.symm,by simp;omega⟩,rfl,rfl⟩
   rintro _ _ ⟨y,hy,rfl,rfl⟩ _
   have hyl:=hy.out.2
   have hy1:=hy.out.1
   rw [Rx] at hy1
   obtain ⟨m,hm⟩:∃ m,vB y=m:=⟨_,rfl⟩
   rw [hm] at hy1
   have kk2:Hid (Ctr Tryz.prog 45 [.str y] (.int .i64 m)):=hid fun q=>Jn (by omega) (by rw [hm];exact q)
   obtain ⟨ok,hok⟩:∃ ok,cx m=ok:=⟨_,rfl⟩
   have kk3:Hid (Ctr Tryz.prog 46 [.int .i64 m] (.bool ok)):=hid fun q=>kt.out (by rw [hok];exact q)
   simp only [cx] at hok
   clear kt hy hm hyl
   cases ok with
   | false =>
     have htn:tmM cnt x=none:=by
       rw [← hy1,if_neg]
       rintro ⟨h1,h2⟩
       rw [decide_eq_true h1,decide_eq_true h2] at hok
       cases hok
     clear hok hy1
     refine wk ?_
     exact az _ _ _ (by omega) (CutL (b:=by simp)) ⟨i+1,out,c,Z,rfl,hlt,hid ⟨hout.out.1,by rw [hou2.out,htn];simpa using hout.out.2⟩,rfl,rfl⟩
   | true =>
   have htn:tmM cnt x=some m:=by
     rw [← hy1,if_pos]
     simpa using hok
   rw [htn] at hou2
   clear htn hok hy1
   refine wk ?_
   refine aI (fun q T' L'=>∃ a:Nat,q=a∧a≤out.length∧Hid (∀ z∈out.drop a,m<z)∧T'=[(10,.int .i64 (a:Int)),(9,.int .i64 m),(16,.int .i64 (i:Int)),(15,.int .i64 vs.length),(14,FN vs),(5,.sl (bc out) out.length c),(1,.str n)]∧L'=L++Z) (CutS (b:=by simp)) ⟨out.length,rfl,Nat.le_refl _,hid (by simp),rfl,rfl⟩ ?_
   rintro a _ _ ⟨_,rfl,ha,hgt,rfl,rfl⟩
   by_cases hst:0<a∧m<out.getD (a - 1) 0
   · obtain ⟨ha0,hma⟩:=hst
     have f1:(0:Int)<(a:Int):=by omega
     have f2:IntKind.i64.wrap ((a:Int) - 1)=(a:Int) - 1:=ac (by omega) (by omega)
     have f3:((a:Int) - 1).toNat=a - 1:=by omega
     have f4:(out.map (AV.int .i64)).getD (a - 1) .undef=.int .i64 (out.getD (a - 1) 0):=by simp [show a - 1<out.length by omega]
     have f5:(0:Int)≤(a:Int) - 1:=by omega
     have f6:(a:Int) - 1<(out.length:Int):=by omega
     have f7:a - 1<out.length:=by omega
     have hgt2:∀ z∈out.drop (a - 1),m<z:=by
       intro z hz
       rw [List.drop_eq_getElem_cons f7,show a - 1+1=a by omega] at hz
       rcases List.mem_cons.1 hz with rfl|hz
       · simpa [f7] using hma
       · exact hgt.out z hz
     obtain ⟨w,hw⟩:∃ w,out.getD (a - 1) 0=w:=⟨_,rfl⟩
     rw [hw] at hma f4
     replace hgt2:=hid hgt2
     clear hw
     refine wk ?_
     exact az _ _ _ (by omega) (CutL (b:=by simp)) ⟨a - 1,rfl,by omega,hgt2,rfl,rfl⟩
   · obtain ⟨p1,p2⟩:=Wh (n:=m) (k:=a) hout.out.1 (fun z hz=>by
       rcases Nat.eq_zero_or_pos a with h0|h0
       · subst h0;cases hz
       · have hle:¬ m<out.getD (a - 1) 0:=fun e=>hst ⟨h0,e⟩
         obtain ⟨j,hj,rfl⟩:=List.getElem_of_mem hz
         have hj':j<a:=by simp at hj;omega
         rw [List.getElem_take]
         have h1:out.getD (a - 1) 0=out[a - 1]'(by omega):=by simp [show a - 1<out.length by omega]
         rw [h1] at hle
         rcases Nat.lt_or_ge j (a - 1) with h2|h2
         · have:=List.pairwise_iff_getElem.1 hout.out.1 j (a - 1) (by omega) (by omega) h2
           omega
         · have:j=a - 1:=by omega
           subst this;omega) (fun z hz=>Int.le_of_lt (hgt.out z hz))
     have hnew:Hid ((out.take a++m::out.drop a).Pairwise (·≤·)∧(out.take a++m::out.drop a).Perm ((vs.take (i+1)).filterMap (tmM cnt))):=hid (And.intro p1 (p2.trans (by
       rw [hou2.out]
       refine (List.Perm.cons m hout.out.2).trans ?_
       simp only [Option.toList_some]
       exact (List.perm_append_singleton ..).symm)))
     have hlen:(out.take a++m::out.drop a).length=out.length+1:=by simp;omega
     have hsp:∀ P:Prop,(a=0→P)→(0<a∧¬ m<out.getD (a - 1) 0→P)→P:=fun P h1 h2=>by
       rcases Nat.eq_zero_or_pos a with h0|h0
       · exact h1 h0
       · exact h2 ⟨h0,fun e=>hst ⟨h0,e⟩⟩
     clear p1 p2 hst hgt
     obtain ⟨X,hX⟩:∃ X,out.take a=X:=⟨_,rfl⟩
     obtain ⟨Y,hY⟩:∃ Y,out.drop a=Y:=⟨_,rfl⟩
     have t1:List.take a (out.map (AV.int .i64))=X.map (AV.int .i64):=by rw [← hX,List.map_take]
     have t2:List.take (out.length - a) (List.drop a (out.map (AV.int .i64)))=Y.map (AV.int .i64):=by rw [← hY,List.map_drop,List.take_of_length_le (by simp)]
     have l1:(X.map (AV.int .i64)).length=a:=by rw [← hX];simp;omega
     have l2:(Y.map (AV.int .i64)).length=out.length - a:=by rw [← hY];simp
     have o1:=Lf X
     have o2:=Lf Y
     rw [hX,hY] at hnew hlen
     refine hsp _ (fun h0=>?_) (fun ⟨h0,hle⟩=>?_)
     · subst h0
       have hX0:X=[]:=by rw [← hX];rfl
       subst hX0
       have hYo:Y=out:=by rw [← hY];rfl
       subst hYo
       rw [Nat.sub_zero,List.drop_zero] at t2
       have b1:(1+Y.length) * 8≤140737488355328:=by omega
       have b2:1+Y.length≤140737488355328:=by omega
       rw [Nat.sub_zero] at l2
       clear hsp hX hY t1 l1 o1
       refine wk ?_
       have hfr:AV.sl (bc ([]++m::Y)) ([]++m::Y).length none=(AV.gsl (AV.int .i64 m::List.map (AV.int .i64) Y) (1+Y.length) (L.length+Z.length) 1).frz:=by
         simp only [AV.frz,AV.frzL,py,List.nil_append,List.map_cons,List.length_cons,Nat.add_comm 1]
       exact az _ _ _ (by omega) (pH (by
         refine b7 rfl (congrArg (AV.int _) (by omega)) ?_
         refine b7 rfl rfl ?_
         refine b7 rfl rfl ?_
         refine ia rfl hfr ?_
         refine b7 rfl rfl ?_
         exact pG) (by simp)) ⟨i+1,_,none,_,rfl,hlt,hnew,rfl,rfl⟩
     · have f1:(0:Int)<(a:Int):=by omega
       have f2:IntKind.i64.wrap ((a:Int) - 1)=(a:Int) - 1:=ac (by omega) (by omega)
       have f3:((a:Int) - 1).toNat=a - 1:=by omega
       have f4:(out.map (AV.int .i64)).getD (a - 1) .undef=.int .i64 (out.getD (a - 1) 0):=by simp [show a - 1<out.length by omega]
       have f5:(0:Int)≤(a:Int) - 1:=by omega
       have f6:(a:Int) - 1<(out.length:Int):=by omega
       have f7:a - 1<out.length:=by omega
       have f8:(0:Int)≤(a:Int):=by omega
       have f9:(a:Int)≤(out.length:Int):=by omega
       obtain ⟨w,hw⟩:∃ w,out.getD (a - 1) 0=w:=⟨_,rfl⟩
       rw [hw] at hle f4
       clear hw hsp hX hY
       refine wk ?_
       have hfr:AV.sl (bc (X++m::Y)) (X++m::Y).length none=(AV.gsl (List.map (AV.int .i64) X++AV.int .i64 m::List.map (AV.int .i64) Y) (a+1+(out.length - a)) (L.length+Z.length) 1).frz:=by
         have e:List.map (AV.int .i64) X++AV.int .i64 m::List.map (AV.int .i64) Y=List.map (AV.int .i64) (X++m::Y):=by simp
         rw [e]
         simp only [AV.frz,py]
         rw [hlen,show a+1+(out.length - a)=out.length+1 by omega]
       exact az _ _ _ (by omega) (pH (by
         refine b7 rfl (congrArg (AV.int _) (by omega)) ?_
         refine b7 rfl rfl ?_
         refine b7 rfl rfl ?_
         refine ia rfl hfr ?_
         refine b7 rfl rfl ?_
         exact pG) (by simp)) ⟨i+1,_,none,_,rfl,hlt,hnew,rfl,rfl⟩
 · have hke:i=vs.length:=by omega
   subst hke
   have g1:¬ (vs.length:Int)<(vs.length:Int):=by omega
   obtain ⟨h1,h2⟩:=hout.out
   rw [List.take_length] at h2
   have hT:ce cnt vs=out:=by rw [ce,KQ h1 h2]
   rw [hT] at h
   clear h1 h2 hT hout
   refine wk ?_
   exact aa (by simp only [AV.refs];exact dx _) (h.out c)
theorem JW (xs:List Int) (d:Int) (h:xs≠[]):xs.getLastD d=xs.getD (xs.length - 1) 0:=by
 have hl:0<xs.length:=List.length_pos_iff.2 h
 have:=kS xs d (i:=xs.length - 1) (by omega)
 rwa [show xs.length - 1+1=xs.length by omega,List.take_length] at this
theorem Ro {l:List Atr} {cap:Option Nat} (hs:Si l) (h:K (.agg [.sl (bc (eE l).1) (eE l).1.length none,.int .i64 (eE l).2.1,.int .i64 (eE l).2.2]) L) :
   ao Tryz.prog 12 [.sl (be l) l.length cap] L K:=by
 obtain ⟨A,hA⟩:∃ A,ce true (bm l z8)=A:=⟨_,rfl⟩
 obtain ⟨B,hB⟩:∃ B,ce false (bm l FR)=B:=⟨_,rfl⟩
 obtain ⟨C,hC⟩:∃ C,ce false (bm l MY)=C:=⟨_,rfl⟩
 have eR:eE l=(A.drop (A.length - 100),B.getLastD (-1),C.getLastD 0):=by
   unfold eE
   rw [hA,hB,hC]
 have lA:A.length≤1000000:=by rw [← hA];exact Nat.le_trans (gV ..) (hs.val _).1
 have lB:B.length≤1000000:=by rw [← hB];exact Nat.le_trans (gV ..) (hs.val _).1
 have lC:C.length≤1000000:=by rw [← hC];exact Nat.le_trans (gV ..) (hs.val _).1
 have kt1:Hid (∀ {L:List Blk} {K:AV→List Blk→Prop},(∀ cap,K (.sl (bc A) A.length cap) L)→ao Tryz.prog 25 [.sl (be l) l.length cap,.str z8] L K):=hid fun q=>FM (cnt:=true) (by decide) (by unfold bH;decide) hs (by rw [hA];exact q)
 have kt2:Hid (∀ {L:List Blk} {K:AV→List Blk→Prop},(∀ cap,K (.sl (bc B) B.length cap) L)→ao Tryz.prog 25 [.sl (be l) l.length cap,.str FR] L K):=hid fun q=>FM (cnt:=false) (by decide) (by unfold bH;decide) hs (by rw [hB];exact q)
 have kt3:Hid (∀ {L:List Blk} {K:AV→List Blk→Prop},(∀ cap,K (.sl (bc C) C.length cap) L)→ao Tryz.prog 25 [.sl (be l) l.length cap,.str MY] L K):=hid fun q=>FM (cnt:=false) (by decide) (by unfold bH;decide) hs (by rw [hC];exact q)
 rw [eR] at h
 clear hA hB hC hs eR
 replace h:=hid h
 refine ag Ka (by simp [p7]) ?_
 simp only [p7,aN]
 refine wk ?_
 refine kt1.out fun c1=>?_
 refine sk ?_
 refine wk ?_
 refine aI (fun m T' L'=>∃ (X:List Int) (c:Option Nat),m=X.length∧Hid (X.drop (X.length - 100)=A.drop (A.length - 100))∧X.length≤1000000∧T'=[(3,.ptr (L.length+1) 0),(2,.ptr L.length 0),(0,.sl (be l) l.length cap)]∧L'=L++[.cells [.sl [] 0 (some 0),.int .i64 0,.int .i64 0],.cells [.sl (bc X) X.length c,.int .i64 (-1),.int .i64 0]]) (CutS (b:=by simp)) ⟨A,c1,rfl,hid rfl,lA,rfl,rfl⟩ ?_
 rintro _ _ _ ⟨X,c,rfl,hX,lX,rfl,rfl⟩
 by_cases hlt:100<X.length
 · have g1:(100:Int)<(X.length:Int):=by omega
   have g2:(1:Int)≤(X.length:Int):=by omega
   obtain ⟨D,hD⟩:∃ D,X.drop 1=D:=⟨_,rfl⟩
   have w4:X.length - 1=D.length:=by rw [← hD];simp
   have w3:List.take D.length (List.drop 1 (X.map (AV.int .i64)))=D.map (AV.int .i64):=by
     rw [← hD,List.map_drop,List.take_of_length_le (by simp)]
   have hX2:D.drop (D.length - 100)=A.drop (A.length - 100):=by
     rw [← hX.out,← w4,← hD,List.drop_drop]
     congr 1;omega
   replace hX2:=hid hX2
   have hDX:D.length<X.length:=by omega
   clear hD
   refine wk ?_
   exact az _ _ _ (by omega) (CutL (b:=by simp)) ⟨D,_,rfl,hX2,by omega,rfl,rfl⟩
 have g1:¬ (100:Int)<(X.length:Int):=by omega
 have hX2:=hX.out
 rw [show X.length - 100=0 by omega,List.drop_zero] at hX2
 rw [← hX2] at h
 clear hX hX2 hlt lA
 refine wk ?_
 refine kt2.out fun c2=>?_
 refine sk ?_
 iterate 1 first
   | refine aT ?_
   | (first|refine aG (by kernel_rfl) ?_|refine ap (by kernel_rfl) ?_|refine aq ?_|refine aZ ?_|refine aO (fun _=>?_)|refine aj ?_|refine aK ?_)
     simp (config:={ maxSteps:=2000000 }) only [Kon,push_cast,reduceIte,Nat.reduceEqDiff,Nat.reduceAdd,Nat.reduceMul,Nat.reduceSub,Nat.reduceLT,Nat.reduceLeDiff,Int.reduceLT,Int.reduceLE,Int.reduceAdd,Int.reduceSub,Int.reduceNeg,Int.reduceToNat,Int.reduceEq,reduceCtorEq, *]
   | (first|refine aC (by kernel_rfl) ?_|refine aH ?_|refine aJ ?_|refine aU (ai ?_))
     simp only [push_cast,reduceIte,Nat.reduceEqDiff,Nat.reduceAdd,Nat.reduceMul,Nat.reduceSub,Nat.reduceLT,Nat.reduceLeDiff,Int.reduceLT,Int.reduceLE,Int.reduceAdd,Int.reduceSub,Int.reduceNeg,Int.reduceToNat,Int.reduceEq,reduceCtorEq, *]
   | exact aP
   | first|apply aQ|apply aD|apply aR|apply aE|apply aS|apply aF
   | refine aw ?_
   | first|refine ar rfl ?_|refine au rfl ?_|refine af rfl ?_ ?_|refine ay rfl (fun _=>?_) (fun _=>?_)|refine ax rfl (fun _=>?_) (fun _=>?_)
   | ((first|refine ae (fun _=>?_) (fun _=>?_)|refine ah (fun _=>?_) (fun _=>?_))<;>try simp (config:={ maxSteps:=2000000 }) only [Kon,push_cast,reduceIte,Nat.reduceEqDiff,Nat.reduceAdd,Nat.reduceMul,Nat.reduceSub,Nat.reduceLT,Nat.reduceLeDiff,Int.reduceLT,Int.reduceLE,Int.reduceAdd,Int.reduceSub,Int.reduceNeg,Int.reduceToNat,Int.reduceEq,reduceCtorEq, *])
   | refine And.intro trivial ?_
   | refine And.intro (by omega) ?_
   | refine aA rfl (fun _=>?_) (fun _=>?_)
   | refine And.intro ?_ ?_
 refine qt (fun T2 L2=>T2=[(3,.ptr (L.length+1) 0),(2,.ptr L.length 0),(0,.sl (be l) l.length cap)]∧L2=L++[.cells [.sl [] 0 (some 0),.int .i64 0,.int .i64 0],.cells [.sl (bc X) X.length c,.int .i64 (B.getLastD (-1)),.int .i64 0]]) ?_ ?_
 · by_cases hB:B=[]
   · subst hB
     refine wk ?_
     exact fC _ _ (CutL (b:=by simp)) ⟨rfl,rfl⟩
   · have hl:0<B.length:=List.length_pos_iff.2 hB
     have e:=JW B (-1) hB
     have f1:(0:Int)<(B.length:Int):=by omega
     have f2:IntKind.i64.wrap ((B.length:Int) - 1)=(B.length:Int) - 1:=ac (by omega) (by omega)
     have f3:((B.length:Int) - 1).toNat=B.length - 1:=by omega
     have f4:(B.map (AV.int .i64)).getD (B.length - 1) .undef=.int .i64 (B.getLastD (-1)):=by rw [e];simp [show B.length - 1<B.length by omega]
     have f5:(0:Int)≤(B.length:Int) - 1:=by omega
     have f6:(B.length:Int) - 1<(B.length:Int):=by omega
     have f7:B.length - 1<B.length:=by omega
     obtain ⟨y,hy⟩:∃ y,B.getLastD (-1)=y:=⟨_,rfl⟩
     rw [hy] at f4
     replace hy:=hid hy
     clear e hB hl
     refine wk ?_
     refine fC _ _ (CutL (b:=by simp)) ⟨rfl,?_⟩
     rw [hy.out]
 rintro _ _ ⟨rfl,rfl⟩ -
 obtain ⟨b,hb⟩:∃ b,B.getLastD (-1)=b:=⟨_,rfl⟩
 simp only [hb] at h ⊢
 clear hb lB
 refine wk ?_
 refine kt3.out fun c3=>?_
 refine sk ?_
 iterate 1 first
   | refine aT ?_
   | (first|refine aG (by kernel_rfl) ?_|refine ap (by kernel_rfl) ?_|refine aq ?_|refine aZ ?_|refine aO (fun _=>?_)|refine aj ?_|refine aK ?_)
     simp (config:={ maxSteps:=2000000 }) only [Kon,push_cast,reduceIte,Nat.reduceEqDiff,Nat.reduceAdd,Nat.reduceMul,Nat.reduceSub,Nat.reduceLT,Nat.reduceLeDiff,Int.reduceLT,Int.reduceLE,Int.reduceAdd,Int.reduceSub,Int.reduceNeg,Int.reduceToNat,Int.reduceEq,reduceCtorEq, *]
   | (first|refine aC (by kernel_rfl) ?_|refine aH ?_|refine aJ ?_|refine aU (ai ?_))
     simp only [push_cast,reduceIte,Nat.reduceEqDiff,Nat.reduceAdd,Nat.reduceMul,Nat.reduceSub,Nat.reduceLT,Nat.reduceLeDiff,Int.reduceLT,Int.reduceLE,Int.reduceAdd,Int.reduceSub,Int.reduceNeg,Int.reduceToNat,Int.reduceEq,reduceCtorEq, *]
   | exact aP
   | first|apply aQ|apply aD|apply aR|apply aE|apply aS|apply aF
   | refine aw ?_
   | first|refine ar rfl ?_|refine au rfl ?_|refine af rfl ?_ ?_|refine ay rfl (fun _=>?_) (fun _=>?_)|refine ax rfl (fun _=>?_) (fun _=>?_)
   | ((first|refine ae (fun _=>?_) (fun _=>?_)|refine ah (fun _=>?_) (fun _=>?_))<;>try simp (config:={ maxSteps:=2000000 }) only [Kon,push_cast,reduceIte,Nat.reduceEqDiff,Nat.reduceAdd,Nat.reduceMul,Nat.reduceSub,Nat.reduceLT,Nat.reduceLeDiff,Int.reduceLT,Int.reduceLE,Int.reduceAdd,Int.reduceSub,Int.reduceNeg,Int.reduceToNat,Int.reduceEq,reduceCtorEq, *])
   | refine And.intro trivial ?_
   | refine And.intro (by omega) ?_
   | refine aA rfl (fun _=>?_) (fun _=>?_)
   | refine And.intro ?_ ?_
 refine qt (fun T2 L2=>T2=[(3,.ptr (L.length+1) 0),(2,.ptr L.length 0),(0,.sl (be l) l.length cap)]∧L2=L++[.cells [.sl [] 0 (some 0),.int .i64 0,.int .i64 0],.cells [.sl (bc X) X.length c,.int .i64 b,.int .i64 (C.getLastD 0)]]) ?_ ?_
 · by_cases hB:C=[]
   · subst hB
     refine wk ?_
     exact fC _ _ (CutL (b:=by simp)) ⟨rfl,rfl⟩
   · have hl:0<C.length:=List.length_pos_iff.2 hB
     have e:=JW C (0) hB
     have f1:(0:Int)<(C.length:Int):=by omega
     have f2:IntKind.i64.wrap ((C.length:Int) - 1)=(C.length:Int) - 1:=ac (by omega) (by omega)
     have f3:((C.length:Int) - 1).toNat=C.length - 1:=by omega
     have f4:(C.map (AV.int .i64)).getD (C.length - 1) .undef=.int .i64 (C.getLastD (0)):=by rw [e];simp [show C.length - 1<C.length by omega]
     have f5:(0:Int)≤(C.length:Int) - 1:=by omega
     have f6:(C.length:Int) - 1<(C.length:Int):=by omega
     have f7:C.length - 1<C.length:=by omega
     obtain ⟨y,hy⟩:∃ y,C.getLastD (0)=y:=⟨_,rfl⟩
     rw [hy] at f4
     replace hy:=hid hy
     clear e hB hl
     refine wk ?_
     refine fC _ _ (CutL (b:=by simp)) ⟨rfl,?_⟩
     rw [hy.out]
 rintro _ _ ⟨rfl,rfl⟩ -
 obtain ⟨e,he⟩:∃ e,C.getLastD 0=e:=⟨_,rfl⟩
 simp only [he] at h ⊢
 clear he
 refine wk ?_
 refine aX ?_
 simp only [AV.frz,AV.frzL,py]
 exact aa (by simp only [AV.refs,AV.refsL,dx];rfl) h.out
end Go.Proofs.YtolfghcbbpcciaaGreatDoor.Av
set_option maxRecDepth 100000
namespace Go.Proofs.YtolfghcbbpcciaaGreatDoor.Av
open Go
variable {L:List Blk} {K:AV→List Blk→Prop}
def EF:LSO:=[Ah 2]
def EE:LSO:=[Aa 7 0,Ak 8 7,Ab 9 0]
def ED:LSO:=[Aj 10 9 8]
def EC:LSO:=[Ao 11 2 7 9,Au 12 2 11,Br 4,An 2 4 12]
def EB:LSO:=[Aa 13 0,Ak 14 13,Az 15 14 60,Aa 16 15,.grp none 16 false
 [AP 17 16 1 4,AB 18 16 1 17,AY 19 16 18,A3 20 16 19 60]
 21 (tm 20)]
def EA:LSO:=[Ah 2]
def Ez:LSO:=[Ad 22 1 4,Ac 23 1 22,Ak 24 23,Ab 25 0]
def Ey:LSO:=[Aj 26 25 24]
def Ex:LSO:=[Ao 27 1 23 25,Ac 28 1 27,Aa 6 28]
def Ew:LSO:=[Aa 29 6,Ap 30 29,Az 31 30 5000]
def zP:LSO:=[Ah 2]
def zO:LSO:=[Ag 32 25 1,Aa 25 32]
def zN:LSO:=[Ag 33 9 1,Aa 9 33]
def zM:LSO:=[Aw 2]
def CQ:ba:=⟨34,(.seq (.sreg EF [])
 (.seq (.seq (.sreg EE [])
 (.block 0 (.loop (.seq (.sreg ED [])
 (.seq (.cond (tm 10) .skip
 (.exit 0))
 (.seq (.block 1 (.seq (.sreg EC BW)
 (.seq (.seq (.sreg EB BY)
 (.cond (tm 21) (.seq (.sreg EA [])
 .ret)
 .skip))
 (.seq (.sreg Ez Cg)
 (.block 2 (.loop (.seq (.sreg Ey [])
 (.seq (.cond (tm 26) .skip
 (.exit 2))
 (.seq (.block 3 (.seq (.sreg Ex BW)
 (.seq (.sreg Ew BW)
 (.cond (tm 31) (.seq (.sreg zP [])
 .ret)
 .skip))))
 (.sreg zO BV))))))))))
 (.sreg zN BV)))))))
 (.seq (.sreg zM [])
 .ret))),[(.tmp 2)]⟩
attribute [push_cast] EF EE ED EC EB EA Ez Ey Ex Ew zP zO zN zM
theorem L5:bb Tryz.prog (fun _ _=>1) 5=some CQ.raw:=by kernel_rfl
set_option maxHeartbeats 8000000
set_option maxRecDepth 100000
def NP (n:Nat) (a:Atr):Bool:=decide (n≤60) && decide (a.2.length≤60) && a.2.all fun v=>decide (v.length≤5000)
def TT (l:List Atr):Bool:=l.all (NP l.length)
theorem Vn {l:List Atr} (h:TT l=true):l.length≤60∧∀ a∈l,a.2.length≤60∧∀ v∈a.2,v.length≤5000:=by
 simp only [TT,List.all_eq_true,NP,Bool.and_eq_true,decide_eq_true_eq] at h
 refine ⟨?_,fun a ha=>⟨(h a ha).1.2,(h a ha).2⟩⟩
 rcases l with _|⟨x,t⟩
 · simp
 · exact (h x (by simp)).1.1
theorem W1 {l:List Atr} {cap:Option Nat} (hl:(l.length:Int)≤9223372036854775807) (hz:∀ a∈l,(a.2.length:Int)≤9223372036854775807) (h:K (.bool (TT l)) L) :
   ao Tryz.prog 5 [.sl (be l) l.length cap] L K:=by
 obtain ⟨R,hR⟩:∃ R,l.all (NP l.length)=R:=⟨_,rfl⟩
 rw [TT,hR] at h
 replace h:=hid h
 replace hR:=hid hR
 refine ag L5 (by simp [CQ]) ?_
 simp only [CQ,aN]
 refine wk ?_
 refine aI (fun m T' L'=>∃ (k:Nat) (X:List Blk),m=l.length - k∧k≤l.length∧Hid ((l.drop k).all (NP l.length)=R)∧T'=[(9,.int .i64 (k:Int)),(8,.int .i64 l.length),(7,.sl (be l) l.length cap),(0,.sl (be l) l.length cap)]∧L'=L++X) (CutS (b:=by simp)) ⟨0,[],rfl,Nat.zero_le _,hid (by simpa using hR.out),rfl,by simp⟩ ?_
 rintro _ _ _ ⟨k,X,rfl,hk,hI,rfl,rfl⟩
 by_cases hlt:k<l.length
 · have g1:(k:Int)<(l.length:Int):=by omega
   have g2:IntKind.i64.wrap ((k:Int)+1)=(k:Int)+1:=ac (by omega) (by omega)
   have e3:=kQ hlt
   have e4:k * 2+2≤(be l).length:=by rw [jL];omega
   obtain ⟨⟨nm,vs⟩,ha⟩:∃ a,l.getD k ([],[])=a:=⟨_,rfl⟩
   have hdr:l.drop k=(nm,vs)::l.drop (k+1):=by rw [List.drop_eq_getElem_cons hlt,← ha];simp [hlt]
   have hvs:=hz (nm,vs) (by rw [← ha];simp [hlt])
   simp only at hvs
   rw [ha] at e3
   simp only [atA] at e3
   have hI2:=hI.out
   rw [hdr,List.all_cons] at hI2
   have no:NP l.length (nm,vs)=false→K (.bool false) L:=fun e=>by
     rw [e,Bool.false_and] at hI2
     have:=h.out
     rwa [← hI2] at this
   replace no:=hid no
   clear hI hdr ha hz hR
   by_cases h1:(60:Int)<(l.length:Int)
   · have h':=hid (no.out (by simp [NP];omega))
     clear hI2
     refine wk ?_
     exact aa rfl h'.out
   by_cases h2:(60:Int)<(vs.length:Int)
   · have h':=hid (no.out (by simp [NP];omega))
     clear hI2
     refine wk ?_
     exact aa rfl h'.out
   obtain ⟨rv,hrv⟩:∃ r,vs.all (fun v=>decide (v.length≤5000))=r:=⟨_,rfl⟩
   have hfe:NP l.length (nm,vs)=rv:=by
     rw [NP,hrv,decide_eq_true (by omega),decide_eq_true (by simp only;omega)];rfl
   rw [hfe] at hI2
   replace hI2:=hid hI2
   replace hrv:=hid hrv
   replace no:=hid (fun e:rv=false=>no.out (hfe.trans e))
   clear hfe
   refine wk ?_
   refine aI (fun m T' L'=>∃ j:Nat,m=vs.length - j∧j≤vs.length∧Hid ((vs.drop j).all (fun v=>decide (v.length≤5000))=rv)∧T'=[(25,.int .i64 (j:Int)),(24,.int .i64 vs.length),(23,.sl (vs.map AV.str) vs.length none),(9,.int .i64 (k:Int)),(8,.int .i64 l.length),(7,.sl (be l) l.length cap),(0,.sl (be l) l.length cap)]∧L'=L++(X++[.cells [.str nm,.sl (vs.map AV.str) vs.length none]])) (CutS (b:=by simp)) ⟨0,rfl,Nat.zero_le _,hid (by simpa using hrv.out),rfl,by simp⟩ ?_
   rintro _ _ _ ⟨j,rfl,hj,hJ,rfl,rfl⟩
   by_cases hjl:j<vs.length
   · have j1:(j:Int)<(vs.length:Int):=by omega
     have j2:IntKind.i64.wrap ((j:Int)+1)=(j:Int)+1:=ac (by omega) (by omega)
     obtain ⟨v,hv⟩:∃ v,vs.getD j []=v:=⟨_,rfl⟩
     have g3:(vs.map AV.str).getD j .undef=.str v:=by rw [← hv];simp [hjl]
     have hdr:vs.drop j=v::vs.drop (j+1):=by rw [List.drop_eq_getElem_cons hjl,← hv];simp [hjl]
     have hJ2:=hJ.out
     rw [hdr,List.all_cons] at hJ2
     clear hv hdr hJ
     by_cases h3:(5000:Int)<(v.length:Int)
     · have h':=hid (no.out (by rw [← hJ2,decide_eq_false (by omega),Bool.false_and]))
       clear hJ2
       refine wk ?_
       exact aa rfl h'.out
     · rw [decide_eq_true (by omega),Bool.true_and] at hJ2
       replace hJ2:=hid hJ2
       refine wk ?_
       exact az _ _ _ (by omega) (CutL (b:=by simp)) ⟨j+1,rfl,hjl,hJ2,rfl,rfl⟩
   · have j1:¬ (j:Int)<(vs.length:Int):=by omega
     have hJ2:=hJ.out
     rw [List.drop_eq_nil_of_le (by omega),List.all_nil] at hJ2
     have hI3:=hI2.out
     rw [← hJ2,Bool.true_and] at hI3
     replace hI3:=hid hI3
     clear hJ hJ2
     refine wk ?_
     exact az _ _ _ (by omega) (CutL (b:=by simp)) ⟨k+1,_,rfl,hlt,hI3,rfl,rfl⟩
 · have hke:k=l.length:=by omega
   subst hke
   have g1:¬ (l.length:Int)<(l.length:Int):=by omega
   have hI2:=hI.out
   rw [List.drop_length,List.all_nil] at hI2
   have h':=h.out
   rw [← hI2] at h'
   replace h':=hid h'
   clear hI hI2 hR
   refine wk ?_
   exact aa rfl h'.out
theorem UZ {ts:List Typ} {capT:Option Nat} {c2:List AV} {n2:Nat} {cap2:Option Nat} {list:List Atr} {cap:Option Nat} (hts:Qg ts) (hl:list.length≤100) (hv:∀ a∈list,bH a.1∧a.2.length≤9000) {R:List Atr×Int} (hR:IM ts [] list=R) (h:K (.tup [.sl (be R.1) R.1.length none,.int .i64 R.2]) L) :
   ao Tryz.prog 7 [.agg [.sl (cv ts) ts.length capT,.sl c2 n2 cap2],.sl (be list) list.length cap] L K:=by
 replace h:=hid h
 replace hR:=hid hR
 refine ag Kf (by simp [qb]) ?_
 simp only [qb,aN]
 refine wk ?_
 obtain ⟨sC,hsC⟩:∃ s,AV.sl c2 n2 cap2=s:=⟨_,rfl⟩
 rw [hsC]
 refine aI (fun m T' L'=>∃ (i:Nat) (out:List Atr) (co:Option Nat) (X:List Blk),m=list.length - i∧i≤list.length∧out.length≤i∧Hid (IM ts out (list.drop i)=R)∧Hid (∀ a∈out,bH a.1∧a.2.length≤9000 * i)∧T'=[(14,.int .i64 (i:Int)),(13,.int .i64 list.length),(12,.sl (be list) list.length cap),(6,.sl (be out) out.length co),(2,.ptr L.length 0)]∧L'=L++(.cells [.sl (cv ts) ts.length capT,sC]::X)) (CutS (b:=by simp)) ⟨0,[],some 0,[],rfl,Nat.zero_le _,Nat.le_refl _,hid (by simpa using hR.out),hid (by simp),rfl,by simp⟩ ?_
 rintro _ _ _ ⟨i,out,co,X,rfl,hi,hol,hI,ho,rfl,rfl⟩
 by_cases hlt:i<list.length
 · have g1:(i:Int)<(list.length:Int):=by omega
   have g2:IntKind.i64.wrap ((i:Int)+1)=(i:Int)+1:=ac (by omega) (by omega)
   have e3:=kQ hlt
   have e4:i * 2+2≤(be list).length:=by rw [jL];omega
   obtain ⟨⟨nm,vs⟩,ha⟩:∃ a,list.getD i ([],[])=a:=⟨_,rfl⟩
   have hdr:list.drop i=(nm,vs)::list.drop (i+1):=by rw [List.drop_eq_getElem_cons hlt,← ha];simp [hlt]
   obtain ⟨hnm,hvs⟩:=hv (nm,vs) (by rw [← ha];simp [hlt])
   simp only at hnm hvs
   rw [ha] at e3
   simp only [atA] at e3
   have hI2:=hI.out
   rw [hdr,IM] at hI2
   simp only at hI2
   replace hI2:=hid hI2
   clear hI hdr ha hv hR
   refine wk ?_
   refine W7 hts.1 hts.2.1 hnm (fun hty=>?_) (fun t ht hty=>?_)
   · have hI3:=hI2.out
     rw [hty] at hI3
     simp only at hI3
     have h':=h.out
     rw [← hI3] at h'
     replace h':=hid h'
     clear hI2 hI3 hty
     refine sk ?_
     refine wk ?_
     exact aX (aa rfl h'.out)
   · have hI3:=hI2.out
     have e5:=Gs ht
     have e6:t * 4+4≤(cv ts).length:=by rw [KN];omega
     have e8:(cv ts).getD (t * 4) .undef=.str (ts.getD t Mo).1:=by
       have h3:=congrArg (fun l=>l[0]?) (Gs ht)
       simp only [List.getElem?_take_of_lt (show 0<4 by omega),List.getElem?_drop,Nat.add_zero] at h3
       rw [List.getD_eq_getElem?_getD,h3];rfl
     have g3:¬ (t:Int)<0:=by omega
     have g4:(t:Int)<(ts.length:Int):=by omega
     have g6:t * 4<(cv ts).length:=by omega
     have htn:=i7 hty
     obtain ⟨ty,hte⟩:∃ ty,ts.getD t Mo=ty:=⟨_,rfl⟩
     rw [hte] at hty e5 e8 htn
     rw [hty] at hI3
     simp only at hI3
     simp only [tyC] at e5
     by_cases hvn:vs=[]
     · rw [if_pos hvn] at hI3
       have h':=h.out
       rw [← hI3] at h'
       replace h':=hid h'
       subst hvn
       clear hI2 hI3 hty htn hte
       refine sk ?_
       refine wk ?_
       exact aX (aa rfl h'.out)
     rw [if_neg hvn] at hI3
     have g5:¬ (vs.length:Int)=0:=by
       rcases vs with _|⟨x,t⟩
       · exact absurd rfl hvn
       · simp;omega
     obtain ⟨V,hV⟩:∃ V,bm out nm=V:=⟨_,rfl⟩
     have hVl:V.length≤9000 * i:=by rw [← hV];exact Nj fun a ha=>(ho.out a ha).2
     rw [hV] at hI3
     obtain ⟨A,hA⟩:∃ A,cf ty.2.1 ty.2.2.1 V vs=A:=⟨_,rfl⟩
     rw [hA] at hI3
     have kk1:Hid (Ctr Tryz.prog 21 [.sl (be out) out.length co,.str nm] (.sl (V.map AV.str) V.length none)):=hid fun q=>IG (by omega) (fun a ha=>⟨(ho.out a ha).1,by have:=(ho.out a ha).2;omega⟩) hnm (by rw [hV];exact q)
     have kk2:Hid (Ctr Tryz.prog 20 [.agg [.str ty.1,.int .i64 ty.2.1,.bool ty.2.2.1,.bool ty.2.2.2],.sl (V.map AV.str) V.length none,.sl (vs.map AV.str) vs.length none] (.tup [.sl (A.1.map AV.str) A.1.length none,.int .i64 A.2])):=hid fun q=>Pw (ty:=ty) (by omega) hA q
     have kk3:Hid (Ctr Tryz.prog 22 [.sl (be out) out.length co,.str ty.1,.sl (A.1.map AV.str) A.1.length none] (.sl (be (dN ty.1 A.1 A.1.isEmpty out)) (dN ty.1 A.1 A.1.isEmpty out).length none)):=hid fun q=>SE (by omega) (fun a ha=>⟨(ho.out a ha).1,by have:=(ho.out a ha).2;omega⟩) (hts.2.1 ty htn.1) q
     obtain ⟨A1,A2⟩:=A
     simp only at kk2 kk3 hI3
     obtain ⟨out',hout'⟩:∃ o,dN ty.1 A1 A1.isEmpty out=o:=⟨_,rfl⟩
     rw [hout'] at kk3 hI3
     clear hI2 hvn hty
     by_cases hc0:A2=0
     · subst hc0
       rw [if_neg (by simp)] at hI3
       have hAl:=Iz (by rw [hA]:(cf ty.2.1 ty.2.2.1 V vs).2=0)
       rw [hA] at hAl
       simp only at hAl
       have hol':out'.length≤i+1:=by
         have:=@Kw ty.1 A1 A1.isEmpty out
         rw [hout'] at this
         split at this<;>omega
       have ho':∀ a∈out',bH a.1∧a.2.length≤9000 * (i+1):=fun a ha=>by
         rw [← hout'] at ha
         rcases vA ha with e|e
         · rw [e];exact ⟨hts.2.1 ty htn.1,by simp only;omega⟩
         · have:=ho.out a e
           exact ⟨this.1,by omega⟩
       replace hI3:=hid hI3
       replace ho':=hid ho'
       clear hA hV hout' hAl htn hte
       refine sk ?_
       refine wk ?_
       exact az _ _ _ (by omega) (CutL (b:=by simp)) ⟨i+1,out',none,_,rfl,hlt,hol',hI3,ho',rfl,rfl⟩
     · rw [if_pos hc0] at hI3
       have h':=h.out
       rw [← hI3] at h'
       replace h':=hid h'
       clear hA hV hout' htn hI3 hte
       refine sk ?_
       refine wk ?_
       exact aX (aa rfl h'.out)
 · have hke:i=list.length:=by omega
   subst hke
   have g1:¬ (list.length:Int)<(list.length:Int):=by omega
   have hI2:=hI.out
   rw [List.drop_length,IM] at hI2
   have h':=h.out
   rw [← hI2] at h'
   replace h':=hid h'
   clear hI hI2 hR hv
   have e0:=ee out
   refine wk ?_
   refine aX ?_
   simp only [AV.frz,AV.frzL,e0]
   exact aa (by simp only [AV.refs,AV.refsL,fq];rfl) h'.out
theorem Tl {ts:List Typ} {B:Nat}:∀ {l out:List Atr} {i:Nat},out.length≤i→(∀ a∈out,a.2.length≤B * i)→(∀ a∈l,a.2.length≤B)→(IM ts out l).1.length≤i+l.length∧∀ a∈(IM ts out l).1,a.2.length≤B * (i+l.length)
 | [],out,i,h1,h2,_=>by rw [IM];exact ⟨h1,h2⟩
 | x::t,out,i,h1,h2,h3=>by
   have nil:([]:List Atr).length≤i+(x::t).length∧∀ a∈([]:List Atr),a.2.length≤B * (i+(x::t).length):=⟨by simp,fun a ha=>by cases ha⟩
   rw [IM]
   rcases hty:gU ts x.1 with _|ty
   · exact nil
   · simp only
     split
     · exact nil
     · split
       · exact nil
       · rename_i hd
         simp only [ne_eq,Decidable.not_not] at hd
         have hl:=Iz hd
         have hv:=Nj (l:=out) (n:=x.1) h2
         have hx:=h3 x (by simp)
         have hB:=Nat.mul_add_one B i
         have:=@Tl ts B t (dN ty.1 (cf ty.2.1 ty.2.2.1 (bm out x.1) x.2).1 (cf ty.2.1 ty.2.2.1 (bm out x.1) x.2).1.isEmpty out) (i+1) (by
           have:=@Kw ty.1 (cf ty.2.1 ty.2.2.1 (bm out x.1) x.2).1 (cf ty.2.1 ty.2.2.1 (bm out x.1) x.2).1.isEmpty out
           split at this<;>omega) (fun a ha=>by
           rcases vA ha with e|e
           · rw [e];simp only;omega
           · have:=h2 a e;omega) (fun a ha=>h3 a (by simp [ha]))
         rw [List.length_cons,show i+(t.length+1)=i+1+t.length by omega]
         exact this
def AtZ (l:List Atr):Prop:=(l.length:Int)≤9223372036854775807∧∀ a∈l,bH a.1∧(a.2.length:Int)≤9223372036854775807
theorem Rs (l:List Atr):(eE l).1.length≤100:=by
 unfold eE
 simp only [List.length_drop]
 omega
theorem SY {l:List Atr} {cap:Option Nat} (hl:AtZ l) (h:K (.bool true) L) :
   ao Tryz.prog 3 [.sl (be l) l.length cap] L K:=by
 replace h:=hid h
 obtain ⟨fb,hfb⟩:∃ b,TT l=b:=⟨_,rfl⟩
 have kk1:Hid (Ctr Tryz.prog 6 [] (.bool true)):=hid fun q=>QU q
 have kk2:Hid (Ctr Tryz.prog 5 [.sl (be l) l.length cap] (.bool fb)):=hid fun q=>W1 hl.1 (fun a ha=>(hl.2 a ha).2) (by rw [hfb];exact q)
 have kk3:Hid (Ctr Tryz.prog 8 [] (.agg [.sl (cv bg) bg.length none,.sl O7 9 none])):=hid fun q=>TY q
 refine ag qo (by simp [fB]) ?_
 simp only [fB,aN]
 cases fb with
 | false =>
   refine wkP ?_
   exact ab h.out
 | true =>
 have hf:=Vn hfb
 obtain ⟨R,hR⟩:∃ R,IM bg [] l=R:=⟨_,rfl⟩
 have hv:∀ a∈l,bH a.1∧a.2.length≤9000:=fun a ha=>⟨(hl.2 a ha).1,by have:=(hf.2 a ha).1;omega⟩
 have kk4:Hid (Ctr Tryz.prog 7 [.agg [.sl (cv bg) bg.length none,.sl O7 9 none],.sl (be l) l.length cap] (.tup [.sl (be R.1) R.1.length none,.int .i64 R.2])):=hid fun q=>UZ KH (by omega) hv hR q
 have hR1:R.1.length≤60∧∀ a∈R.1,a.2.length≤3600:=by
   have:=Tl (ts:=bg) (l:=l) (out:=[]) (i:=0) (B:=60) (Nat.le_refl _) (by simp) (fun a ha=>(hf.2 a ha).1)
   rw [hR] at this
   exact ⟨by have:=this.1;omega,fun a ha=>by have:=this.2 a ha;omega⟩
 have hR2:R.2=0→InA bg R.1:=fun e=>by rw [← hR] at e ⊢;exact QJ (Tc _) e
 obtain ⟨R1,z⟩:=R
 simp only at hR1 hR2 kk4
 clear hR hf hfb hv hl
 by_cases hz:z=0
 · subst hz
   have hin:=hR2 rfl
   have hs:=Tz KH hin (by omega) (fun a ha=>by have:=hR1.2 a ha;omega)
   have hrl:=Rs R1
   have kk5:Hid (Ctr Tryz.prog 11 [.sl (be R1) R1.length none] (.agg [.sl (bc (eE R1).1) (eE R1).1.length none,.int .i64 (eE R1).2.1,.int .i64 (eE R1).2.2])):=hid fun q=>Qz hin.1 hs q
   have kk6:Hid (Ctr Tryz.prog 12 [.sl (be R1) R1.length none] (.agg [.sl (bc (eE R1).1) (eE R1).1.length none,.int .i64 (eE R1).2.1,.int .i64 (eE R1).2.2])):=hid fun q=>Ro hs q
   obtain ⟨⟨X,a,b⟩,hX⟩:∃ r,eE R1=r:=⟨_,rfl⟩
   rw [hX] at hrl
   simp only [hX] at kk5 kk6 hrl
   clear hX
   have kk7:Hid (Ctr Tryz.prog 10 [.agg [.sl (bc X) X.length none,.int .i64 a,.int .i64 b]] (.agg [.sl (bc X) X.length none,.int .i64 a,.int .i64 b])):=hid fun q=>WS (dx _) q
   have kk8:Hid (Ctr Tryz.prog 9 [.agg [.sl (bc X) X.length none,.int .i64 a,.int .i64 b],.agg [.sl (bc X) X.length none,.int .i64 a,.int .i64 b]] (.bool true)):=hid fun q=>Od (by omega) q
   clear hin hs hR1 hR2
   refine wkP ?_
   exact ab h.out
 · clear hR1 hR2
   refine wkP ?_
   exact ab h.out
open Go Go.ChangeShapes
theorem SR:RdZ Tryz.prog 44 (fun l:List (List UInt8)=>[FN l]) (fun l=>l.length≤maxLen) :=
 (MO Tryz.underlying44 (Qy Tryz.underlying9) (by kernel_rfl)).map fun l hl=>⟨l,hl.1,by
   have e:∀ l:List (List UInt8),l.map AV.str=l.flatMap fun r=>[AV.str r]:=fun l=>by
     induction l with
     | nil=>rfl
     | cons a l ih=>rw [List.map_cons,List.flatMap_cons,ih];rfl
   simp only [FN,e l]⟩
theorem U3:RdZ Tryz.prog 46 atA (fun a=>a.1.length≤reachBytes∧a.2.length≤maxLen) :=
 (Pt Tryz.underlying46 (N:=2) (by kernel_rfl) (MP (sz:=1) rfl (by kernel_rfl) (Qy Tryz.underlying9) (MP (sz:=1) rfl (by kernel_rfl) SR (SS rfl)))).map
   fun y hy=>⟨(y.1,y.2.1),⟨hy.1,hy.2.1⟩,rfl⟩
theorem U2:RdZ Tryz.prog 22 (fun l=>[.sl (be l) l.length none]) AtZ :=
 (MO Tryz.underlying22 U3 (by kernel_rfl)).map fun l hl=>⟨l,⟨by have:=hl.1;simp only [maxLen] at this;omega,fun a ha=>by
   obtain ⟨h1,h2⟩:=hl.2 a ha
   simp only [maxLen] at h2
   simp only [reachBytes] at h1
   unfold bH
   omega⟩,rfl⟩
end Go.Proofs.YtolfghcbbpcciaaGreatDoor.Av
