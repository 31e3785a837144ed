/- Joined texts of the walk, made small by a program. -/
import Derived.Shelf.Strings.Builder1
import Derived.Shelf.Strings.Builder2
import Derived.Shelf.Strings.OnBuilder
import Derived.Shelf.Small.Bits
import Derived.Shelf.Small.Strs
import Derived.Shelf.Strconv.Itoa0
import Derived.Shelf.Strconv.Itoa1
import Derived.Shelf.LaysM
import Derived.Shelf.Strconv.Itoa2
import Derived.Shelf.Strconv.Itoa3
import Derived.Shelf.Strconv.Itoa4
import Derived.Shelf.Strconv.ParseIntEmpty
import Derived.Shelf.Strconv.Clone
import Derived.Shelf.Strconv.SyntaxError
import Derived.Shelf.LaysC
import Derived.Shelf.Strconv.ToError
import Derived.Shelf.Strconv.Lower
import Derived.Shelf.Strconv.ParseUint10
import Derived.Shelf.Strconv.ParseUint10Empty
import Derived.Shelf.Strconv.ParseUint10Any
import Derived.Shelf.Strconv.ParseInt10
import Derived.Shelf.Strconv.RangeError
import Derived.Shelf.Strconv.ToErrorRange
import Derived.Shelf.Strconv.ParseUintEmpty
import Derived.Shelf.Strconv.ParseUint10b64
import Derived.Shelf.Strconv.ParseUint10b32
import Derived.Shelf.Strconv.ParseUint10b16
import Derived.Shelf.Strconv.ParseUint10b8
import Derived.Shelf.Strconv.ParseUint10At
import Derived.Shelf.Strconv.ParseInt10At64
import Derived.Shelf.Strconv.ParseInt10At32
import Derived.Shelf.Strconv.ParseInt10At16
import Derived.Shelf.Strconv.ParseInt10At8
import Derived.Shelf.Strconv.ParseInt10All
import Derived.Shelf.Strconv.ParseIntPublic10
import Derived.Shelf.Strconv.ErrVarParseInt
import Derived.Shelf.Strings.Search1
import Derived.Shelf.Strings.Search2
import Derived.Shelf.Strings.Search3
import Derived.Shelf.Strings.Cut
import Derived.Shelf.Strings.Shaped
import Derived.Shelf.Sort.Plain
import Derived.Shelf.GgClosure.StringsIndexFunc
import Derived.Ground.GgwProg
import Derived.Shelf.GgClosure.StringsIndexFuncTop
import Derived.Shelf.GgClosure.StringsRunes
import Derived.Shelf.Strings.Prefix
import Derived.Shelf.Slices.Equal
import Derived.Ground.Names2Prog
import Derived.Shelf.Slices.Clone
import Derived.Shelf.Slices.In.SortNone
import Derived.Ground.SlsfProg
import Derived.Shelf.SlSortCmp.Insertion
import Derived.Shelf.SlSortCmp.SiftDown1
import Derived.Shelf.SlSortCmp.HeapSort1
import Derived.Shelf.SlSortCmp.Insertion1
import Derived.Shelf.SlSortCmp.Median1
import Derived.Shelf.SlSortCmp.Pivot1
import Derived.Shelf.SlSortCmp.ReverseRange1
import Derived.Shelf.SlSortCmp.PartialInsertion1
import Derived.Shelf.SlSortCmp.PartitionEqual1
import Derived.Shelf.SlSortCmp.Partition1
import Derived.Shelf.SlSortCmp.Pdq1
import Derived.Shelf.SlSortCmp.Whole1
import Derived.Shelf.Unicode.ValidAny
import Derived.Test.YtdnfjhflkkpokaaGreatDoorProg
import Derived.Test.YtdnfjhflkkpokaaGreatDoorKk4
import Derived.WalkKit
import Derived.ProofKit
import Derived.OpenShut
import Derived.JoinedCond
import Derived.SizedLaws
import Derived.Sort.Grow
import Derived.Deep.Draws
import Derived.Lib.LaidTab
import Derived.Lib.ItoaNum
import Derived.Lib.ParseIntB
import Derived.Stop.LaidErr
import Derived.Lib.LaidU8T
import Derived.Shelf.Vars
import Derived.Test.YtdnfjhflkkpokaaGreatDoorRows
import Derived.KernelRfl
set_option linter.unusedSimpArgs false
set_option linter.unusedVariables false
namespace Go.Proofs
open Go.Shelf
def Tryz.lays156_ren:Go.Shelf.Ren:=⟨λ|156=>126|165=>180|166=>181|169=>182|240=>207|241=>208|276=>232|277=>233|n=>n,λ|31=>50|9=>9|3=>3|4=>4|0=>0|20=>20|72=>259|76=>261|70=>257|37=>178|75=>242|127=>283|164=>308|5=>5|80=>263|n=>n,λ|n=>n⟩
theorem Tryz.lays156:Go.Proofs.Lays.n156 Tryz.prog Tryz.lays156_ren:={
 mixed:=by kernel_rfl
 f156:=Tryz.func126.trans (congrArg some (by kernel_rfl))
 f165:=Tryz.func180.trans (congrArg some (by kernel_rfl))
 f166:=Tryz.func181.trans (congrArg some (by kernel_rfl))
 f169:=Tryz.func182.trans (congrArg some (by kernel_rfl))
 f240:=Tryz.func207.trans (congrArg some (by kernel_rfl))
 f241:=Tryz.func208.trans (congrArg some (by kernel_rfl))
 f276:=Tryz.func232.trans (congrArg some (by kernel_rfl))
 f277:=Tryz.func233.trans (congrArg some (by kernel_rfl))
 t0:=Tryz.underlying0
 a0:=Tryz.isAgg0
 z0:=Tryz.sizeOf0
 v0:=Tryz.zeroValue0
 t3:=Tryz.underlying3
 a3:=Tryz.isAgg3
 z3:=Tryz.sizeOf3
 v3:=Tryz.zeroValue3
 t4:=Tryz.underlying4
 a4:=Tryz.isAgg4
 z4:=Tryz.sizeOf4
 v4:=Tryz.zeroValue4
 t9:=Tryz.underlying9
 a9:=Tryz.isAgg9
 z9:=Tryz.sizeOf9
 v9:=Tryz.zeroValue9
 t20:=Tryz.underlying20
 a20:=Tryz.isAgg20
 z20:=Tryz.sizeOf20
 v20:=Tryz.zeroValue20
 t31:=Tryz.underlying50
 a31:=Tryz.isAgg50
 z31:=Tryz.sizeOf50
 v31:=Tryz.zeroValue50
 t37:=Tryz.underlying178
 a37:=Tryz.isAgg178
 z37:=Tryz.sizeOf178
 v37:=Tryz.zeroValue178
 t70:=Tryz.underlying257
 a70:=Tryz.isAgg257
 z70:=Tryz.sizeOf257
 v70:=Tryz.zeroValue257
 t72:=Tryz.underlying259
 a72:=Tryz.isAgg259
 z72:=Tryz.sizeOf259
 v72:=Tryz.zeroValue259
 t75:=Tryz.underlying242
 a75:=Tryz.isAgg242
 z75:=Tryz.sizeOf242
 v75:=Tryz.zeroValue242
 t76:=Tryz.underlying261
 a76:=Tryz.isAgg261
 z76:=Tryz.sizeOf261
 v76:=Tryz.zeroValue261
 t127:=Tryz.underlying283
 a127:=Tryz.isAgg283
 z127:=Tryz.sizeOf283
 v127:=Tryz.zeroValue283
 t164:=Tryz.underlying308
 a164:=Tryz.isAgg308
 z164:=Tryz.sizeOf308
 v164:=Tryz.zeroValue308}
theorem Tryz.Builder_Extra_156:Builder.Extra Tryz.prog Tryz.lays156_ren:={
 sizeBuilder:=by kernel_rfl
 liesBuilder:=by kernel_rfl
 t5:=Tryz.underlying5
 a5:=Tryz.isAgg5
 z5:=Tryz.sizeOf5
 v5:=Tryz.zeroValue5
 infoByte:=by kernel_rfl
 cellsByte:=by kernel_rfl
 sizeByte:=by kernel_rfl
 neB5:=by decide}
open Go.RowKit in
theorem Tryz.strings_Join_none(a:Option Addr)(c:Nat)(sep:ByteArray)(w:World):
 Calls Tryz.prog 126 #[.slice a 0 c,.string sep] w λe w'=>e=.returned (.string ⟨#[]⟩)/\w'=w:=Any.strings_Join_none Tryz.lays156 Tryz.Builder_Extra_156 a c sep w
open Go.RowKit in
theorem Tryz.strings_Join(bk o c:Nat)(xs:List ByteArray)(sep:ByteArray)(w:World)(hcells:∀(j:Nat) x,xs[j]?=some x->w.cell? ⟨bk,o+j,none⟩=some (.string x))(hbk:bk<w.heap.size)(hN:xs.length<=140737488355328)(hcap:xs.length<=c)(hlen:(Lib.join (xs.map (·.data.toList)) sep.data.toList).length<=140737488355328):
 Calls Tryz.prog 126 #[.slice (some ⟨bk,o,none⟩) xs.length c,.string sep] w λe w'=>e=.returned (.string ⟨(Lib.join (xs.map (·.data.toList)) sep.data.toList).toArray⟩)/\Below w.heap.size w w':=Any.strings_Join Tryz.lays156 Tryz.Builder_Extra_156 bk o c xs sep w hcells hbk hN hcap hlen
def Tryz.lays137_ren:Go.Shelf.Ren:=⟨λ|137=>177|217=>199|266=>230|n=>n,λ|9=>9|5=>5|3=>3|n=>n,λ|n=>n⟩
theorem Tryz.lays137:Go.Proofs.Lays.n137 Tryz.prog Tryz.lays137_ren:={
 mixed:=by kernel_rfl
 f137:=Tryz.func177.trans (congrArg some (by kernel_rfl))
 f217:=Tryz.func199.trans (congrArg some (by kernel_rfl))
 f266:=Tryz.func230.trans (congrArg some (by kernel_rfl))
 t3:=Tryz.underlying3
 a3:=Tryz.isAgg3
 z3:=Tryz.sizeOf3
 v3:=Tryz.zeroValue3
 t5:=Tryz.underlying5
 a5:=Tryz.isAgg5
 z5:=Tryz.sizeOf5
 v5:=Tryz.zeroValue5
 t9:=Tryz.underlying9
 a9:=Tryz.isAgg9
 z9:=Tryz.sizeOf9
 v9:=Tryz.zeroValue9}
open Go.RowKit in
theorem Tryz.strings_IndexByte(s:ByteArray)(c:Int)(w:World):
 Calls Tryz.prog 177 #[.string s,.int .u8 c] w λe w'=>e=.returned (.int .i64 (Lib.indexByte s.data.toList c.toNat.toUInt8))/\w'=w:=Any.strings_IndexByte Tryz.lays137 s c w
def Tryz.lays219_ren:Go.Shelf.Ren:=⟨λ|219=>168|217=>199|225=>200|224=>201|267=>202|266=>230|314=>231|n=>n,λ|9=>9|3=>3|4=>4|5=>5|46=>185|146=>306|51=>229|n=>n,λ|1=>3|n=>n⟩
theorem Tryz.lays219:Go.Proofs.Lays.n219 Tryz.prog Tryz.lays219_ren:={
 mixed:=by kernel_rfl
 f217:=Tryz.func199.trans (congrArg some (by kernel_rfl))
 f219:=Tryz.func168.trans (congrArg some (by kernel_rfl))
 f224:=Tryz.func201.trans (congrArg some (by kernel_rfl))
 f225:=Tryz.func200.trans (congrArg some (by kernel_rfl))
 f266:=Tryz.func230.trans (congrArg some (by kernel_rfl))
 f267:=Tryz.func202.trans (congrArg some (by kernel_rfl))
 f314:=Tryz.func231.trans (congrArg some (by kernel_rfl))
 t3:=Tryz.underlying3
 a3:=Tryz.isAgg3
 z3:=Tryz.sizeOf3
 v3:=Tryz.zeroValue3
 t4:=Tryz.underlying4
 a4:=Tryz.isAgg4
 z4:=Tryz.sizeOf4
 v4:=Tryz.zeroValue4
 t5:=Tryz.underlying5
 a5:=Tryz.isAgg5
 z5:=Tryz.sizeOf5
 v5:=Tryz.zeroValue5
 t9:=Tryz.underlying9
 a9:=Tryz.isAgg9
 z9:=Tryz.sizeOf9
 v9:=Tryz.zeroValue9
 t46:=Tryz.underlying185
 a46:=Tryz.isAgg185
 z46:=Tryz.sizeOf185
 v46:=Tryz.zeroValue185
 t51:=Tryz.underlying229
 a51:=Tryz.isAgg229
 z51:=Tryz.sizeOf229
 v51:=Tryz.zeroValue229
 t146:=Tryz.underlying306
 a146:=Tryz.isAgg306
 z146:=Tryz.sizeOf306
 v146:=Tryz.zeroValue306
 g1:=by kernel_rfl}
open Go.RowKit Go.Lib in
theorem Tryz.stringslite_Index_one(s:ByteArray)(c:UInt8)(w:World):
 Calls Tryz.prog 168 #[.string s,.string ⟨#[c]⟩] w λe w'=>e=.returned (.int .i64 (Lib.indexByte s.data.toList c))/\w'=w:=Any.stringslite_Index_one Tryz.lays219 s c w
def Tryz.lays196_ren:Go.Shelf.Ren:=⟨λ|196=>105|259=>160|n=>n,λ|9=>9|4=>4|3=>3|5=>5|12=>12|119=>236|0=>0|46=>185|139=>239|138=>238|53=>231|n=>n,λ|3=>0|4=>1|n=>n⟩
theorem Tryz.lays196:Go.Proofs.Lays.n196 Tryz.prog Tryz.lays196_ren:={
 mixed:=by kernel_rfl
 f196:=Tryz.func105.trans (congrArg some (by kernel_rfl))
 f259:=Tryz.func160.trans (congrArg some (by kernel_rfl))
 t0:=Tryz.underlying0
 a0:=Tryz.isAgg0
 z0:=Tryz.sizeOf0
 v0:=Tryz.zeroValue0
 t3:=Tryz.underlying3
 a3:=Tryz.isAgg3
 z3:=Tryz.sizeOf3
 v3:=Tryz.zeroValue3
 t4:=Tryz.underlying4
 a4:=Tryz.isAgg4
 z4:=Tryz.sizeOf4
 v4:=Tryz.zeroValue4
 t5:=Tryz.underlying5
 a5:=Tryz.isAgg5
 z5:=Tryz.sizeOf5
 v5:=Tryz.zeroValue5
 t9:=Tryz.underlying9
 a9:=Tryz.isAgg9
 z9:=Tryz.sizeOf9
 v9:=Tryz.zeroValue9
 t12:=Tryz.underlying12
 a12:=Tryz.isAgg12
 z12:=Tryz.sizeOf12
 v12:=Tryz.zeroValue12
 t46:=Tryz.underlying185
 a46:=Tryz.isAgg185
 z46:=Tryz.sizeOf185
 v46:=Tryz.zeroValue185
 t53:=Tryz.underlying231
 a53:=Tryz.isAgg231
 z53:=Tryz.sizeOf231
 v53:=Tryz.zeroValue231
 t119:=Tryz.underlying236
 a119:=Tryz.isAgg236
 z119:=Tryz.sizeOf236
 t138:=Tryz.underlying238
 a138:=Tryz.isAgg238
 z138:=Tryz.sizeOf238
 v138:=Tryz.zeroValue238
 t139:=Tryz.underlying239
 a139:=Tryz.isAgg239
 z139:=Tryz.sizeOf239
 v139:=Tryz.zeroValue239
 g3:=by kernel_rfl
 g4:=by kernel_rfl}
end Go.Proofs
namespace Go.Proofs.YtdnfjhflkkpokaaGreatDoor.Av
open Go Go.ChangeShapes Go.WideShapes Go.ChangeAt Go.RowKit
variable {P:Program}{t e:TypeId}{X Y H:Type}{w W:World}{n N g:Nat}{v:Value}{f:FuncId}{E:Env}{l:List AV}{A B:Prop}{name:String}
def mz(w:World):Env:={mem:=λb o=>w.cell? ⟨b,o,none⟩,loc:=λ_=>none,tok:=λ_=>none}
theorem Rel.start(w:World)(hg:mw (mz w).mem/\qz w):Rel w ⟨λ_=>False,0⟩ (mz w) [] w where
 mem _ _ _ h:=h
 blk _ _ h:=by simp at h
 fresh _ _:=rfl
 own _ _ _ h:=by simp at h
 inj _ _ _ _ _ _ h:=by simp at h
 tkfresh _ _:=rfl
 tkown _ _ _ _ _ h:=by simp at h
 tkloc _ _ _ _ _ _ _ _ h:=by simp at h
 tkinj _ _ _ _ _ _ _ _ _ _ h:=by simp at h
 frame _ _ _:=rfl
 size:=ajs _
 os:=rfl
 tape:=rfl
 output:=rfl
 glob:=hg.1
 gsz:=hg.2
def Rd(P:Program)(t:TypeId){X:Type}(ec:X->List AV)(ok:X->Prop):Prop :=
 ∀(H:Type) (enc:TypeId×Value->H) (w:World) (fuel:Nat) (cs:List Value) (x:DataW H×List MemPlace),
  DataW.trod enc P w 0 (λ_=>true) true fuel t cs=some x->∃y,ok y/\VRL (mz w) (ec y) cs
theorem Rd.map{ec:X->List AV}{ok:X->Prop}{ec':Y->List AV}{ok':Y->Prop}(h:Rd P t ec ok)(m:∀y,ok y->∃z,ok' z/\ec' z=ec y):Rd P t ec' ok':=λH enc w fuel cs x hx=>by obtain⟨y,h1,h2⟩:=h H enc w fuel cs x hx;obtain⟨z,h3,h4⟩:=m y h1;exact⟨z,h3,by rw[h4];exact h2⟩
theorem aba(ht:P.underlying t=some .bool):Rd P t (λb:Bool=>[.bool b]) (λ_=>True):=λH enc w fuel cs x hx=>by obtain⟨b,rfl,_⟩:=DataW.trod_bool ht hx;exact⟨b,trivial,by simp[VRL,VR]⟩
theorem abx{E:Env}:∀{l m:List AV}{b o:Nat},VRC E l b o->VRC E m b (o+l.length)->VRC E (l++m) b o
 |[],_,_,_,_,h=>by simpa using h
 |a::l,m,b,o,h,k=>by simp only[akd,VRC]at h⊢;exact⟨h.1,abx h.2 (by rw[show o+1+l.length=o+(l.length+1)by omega];exact k)⟩
theorem WH{X:Type}(Q:Nat->X->Prop):∀n,(∀i,i<n->∃y,Q i y)->∃ys:List X,ys.length=n/\∀i y,ys[i]?=some y->Q i y
 |0,_=>⟨[],rfl,amN⟩
 | n+1,h=>by
   obtain⟨ys,h1,h2⟩:=WH Q n λi hi=>h i amM
   obtain⟨y,hy⟩:=h n amM;refine⟨ys++[y],by simp[h1],λi z hz=>?_⟩;rw[akT]at hz;split at hz
   .exact h2 i z hz
   .have hi:i-ys.length=0:=by
     rcases akM (i-ys.length)with e|e
     .exact e
     .rw[alt (by simp;omega)]at hz;cases hz
    rw[hi]at hz;simp at hz;subst hz;rw[show i=n by omega];exact hy
theorem Zs{E:Env}{X:Type}{ec:X->List AV}{b sz:Nat}:∀{ys:List X}{o:Nat},(∀i y,ys[i]?=some y->(ec y).length=sz/\VRC E (ec y) b (o+i*sz))->VRC E (ys.flatMap ec) b o
 |[],_,_=>by simp[VRC]
 |y::ys,o,h=>by rw[aj5];have h0:=h 0 y rfl;refine abx (by simpa using h0.2) (Zs (sz:=sz) λi z hz=>?_);have:=h (i+1) z hz;refine⟨this.1,?_⟩;rw[h0.1,show o+sz+i*sz=o+(i+1)*sz by rw[akt];omega];exact this.2
theorem Vw{a:Addr}{cs:List Value}(h:w.cells? 0 a n=some cs):cs.length=n/\∀i,i<n->w.cell? (a.add i)=cs[i]?:=by simp only[World.cells?,aju,if_true]at h;refine⟨by simpa using mapM_some_length h,λi hi=>?_⟩;exact mapM_some_get h i i (by simp[hi])
theorem acN{a:Addr}(h:w.cell? a=some v):a.spot=none:=by rcases hs:a.spot with _|s;rfl;simp only[World.cell?,hs,Option.isSome_some,if_true]at h;split at h<;>cases h
theorem Z4{base:Nat}(hg:ic P t=some false)(h:Value.okWide P w .any base t v):v.cells.toList=[v]:=by
 unfold ic at hg;unfold Value.okWide at h;split at hg;cases hg;cases hg
 .rename_i d h1 h2 hu;rw[hu]at h;split at h;rename_i e;cases e;exact absurd rfl (h1 _);rename_i e;cases e;exact absurd rfl (h2 _ _)
  .cases v<;>try rfl
   rename_i cs;unfold Cell.okWide at h;split at h<;>try (rename_i e1 e2;cases e2)
   unfold Cell.ok at h;split at h<;>first|(rename_i e1 e2;cases e2;done)|cases h
 cases hg
theorem YE{enc:TypeId×Value->H}{f:Func}{s:ChangeSpec}{apart fresh handsOn again:Bool}{W':World}{args:Array Value}{ds gs:List (DataW H)}{before pa pv:List MemPlace}(hW:DataW.Whole enc P f.params.toList s.vars apart W args.toList ds gs before)(hres:∀(b:Nat) (sp:Nat->Bool) (hd:Bool),DataW.TrodAll enc P W' b sp hd f.resultTypes.toList (v.resultList f.resultTypes.size) (s.fn H (ds++gs)).results [])(hargs:∀sp:Nat->Bool,(∀p∈before,sp p.block=true)->DataW.TrodAll enc P W' 0 sp true f.params.toList args.toList (s.fn H (ds++gs)).args pa)(hvars:∀sp:Nat->Bool,(∀p∈before,sp p.block=true)->DataW.TrodVars enc P W' sp s.vars (s.fn H (ds++gs)).vars pv)(hps:before=pa++pv)(hk:W.keptBut W' (·∈before))(hfz:∀b o,b<W.heap.size->W'.frozen? ⟨b,o,none⟩=W.frozen? ⟨b,o,none⟩)(hok:∀(j:Nat) (t:TypeId) (r:Value),f.resultTypes[j]?=some t->(v.resultList f.resultTypes.size)[j]?=some r->Value.okWide P W' .any 0 t r):
  s.post enc P f apart fresh handsOn again W args v W':=by
 have hlt:=hW.lt;have hold:∀p∈before,(λb=>decide (b<W.heap.size)) p.block=true:=λp hp=>by simpa using hlt p hp
 refine⟨ds,gs,before,[],pa,pv,hW,hres _ _ _,hargs _ hold,hvars _ hold,World.keptBut_mono (λp hp=>⟨hp,?_⟩) hk,λ_=>?_⟩;rw[hps,ajx]at hp;exact Or.inr hp;obtain⟨_,_,_,_,_,hz,hn⟩:=hW;refine⟨hok,_,_,([]++pa)++pv,⟨[]++pa,pv,trodAll_append (hargs _ (λ_ _=>rfl)) (hres _ _ _),hvars _ (λ_ _=>rfl),rfl,?_,?_⟩,?_⟩;intro b off hp;have hp':MemPlace.cell b off∈before:=by rw[hps];simpa using hp
 rw[hfz b off (hlt _ hp')];exact hz b off hp';intro ha;have:=hn ha;rw[hps]at this;simpa using this;intro p hp _;rw[hps];simpa using hp
def xN(P:Program):Bool:=(List.range P.types.size).all λt=>match P.underlying t with|some (.slice e)=>decide (0<P.cellsOf e)|_=>true
theorem Kq{H:Type}{enc:TypeId×Value->H}{P:Program}{W W':World}(hlaid:laidOutB P=true)(hrow:mapsRowed P=true)(hfull:xN P=true):
  ∀{ts:List TypeId}{vs:List Value}{ds:List (DataW H)}{ps:List MemPlace},(∀t∈ts,t<P.types.size)->DataW.TrodAll enc P W 0 (λ_=>true) true ts vs ds ps->(∀p∈ps,W.sameAt W' p) ->
  ∀sp:Nat->Bool,(∀p∈ps,sp p.block=true)->DataW.TrodAll enc P W' 0 sp true ts vs ds ps
 |[],_,_,_,_,h,_,_,_=>by obtain⟨rfl,rfl,rfl⟩:=trodAll_nil h;exact trodAll_mk0
 | t::ts,_,_,_,hts,h,hs,sp,hsp=>by
   obtain⟨v,vs',d,ds',p,q,rfl,rfl,rfl,h1,h2⟩:=trodAll_cons h;obtain⟨fuel,h1⟩:=h1;refine trodAll_cons_mk ⟨fuel,DataW.trod_stays (kids_rows hlaid hrow) (λ{t e} ht hu=>?_) (λe=>by cases e) (hts t amN) h1 (λr hr=>hs r (ako _ hr)) (λr hr=>hsp r (ako _ hr))⟩
    (Kq hlaid hrow hfull (λu hu=>hts u (by simp[hu])) h2 (λr hr=>hs r (akO _ hr)) sp (λr hr=>hsp r (akO _ hr)))
   have:=ajE.1 hfull t (List.mem_range.2 ht);rw[hu]at this;simpa using this
theorem Ui{H:Type}{enc:TypeId×Value->H}{P:Program}{w:World}{base:Nat}{spare:Nat->Bool}{held:Bool}:∀{ts:List TypeId}{vs:List Value}{ds:List (DataW H)}{ps:List MemPlace},DataW.TrodAll enc P w base spare held ts vs ds ps->ds.length=ts.length
 |[],_,_,_,h=>by obtain⟨_,rfl,_⟩:=trodAll_nil h;rfl
 |t::ts,_,_,_,h=>by obtain⟨v,vs',d,ds',p,q,rfl,rfl,rfl,_,h2⟩:=trodAll_cons h;simp[Ui h2]
theorem NT{fn:Func}{s:ChangeSpec}{apart fresh handsOn again:Bool}{tb:TypeId}(hfn:P.funcs[f]?=some fn)(hbody:fn.body.isSome=true)(hname:(fn.name == "runtime.NumGoroutine")=false)(hlaid:laidOutB P=true)(hrow:mapsRowed P=true)(hfull:xN P=true)(hts:fn.params.toList.all (fun t=>decide (t<P.types.size))=true)(hres:fn.resultTypes=#[tb])(hb:P.underlying tb=some .bool)(hvars:s.vars=[])(hs:∀ (H:Type) (ds:List (DataW H)),ds.length=fn.params.toList.length->(s.fn H ds).results=[.lit (.bool true)]/\(s.fn H ds).args=ds/\(s.fn H ds).vars=[]){ec:X->List AV}{ok:X->Prop}(walk:∀ y,ok y->af P f (ec y) [] fun av _=>av=.bool true)(enc:TypeId×Value->H)(W:World)(args:Array Value)(ds gs:List (DataW H))(before:List MemPlace)(hA:∀ p,DataW.TrodAll enc P W 0 (fun _=>true) true fn.params.toList args.toList ds p->∃ y,ok y/\VRL (mz W) (ec y) args.toList)(hW:DataW.Whole enc P fn.params.toList s.vars apart W args.toList ds gs before)(hglob:mw (mz W).mem/\qz W):
  Calls P f args W λe W'=>∃v,e=.returned v/\s.post enc P fn apart fresh handsOn again W args v W':=by
 have hW':=hW;have hlt:=hW.lt;obtain⟨p,q,hA0,hV,rfl,hfz,hnd⟩:=hW;rw[hvars]at hV;obtain⟨rfl,rfl⟩:=trodVars_none hV;obtain⟨y,hy,hvr⟩:=hA p hA0;have hlen:=Ui hA0;obtain⟨e1,e2,e3⟩:=hs H ds hlen;have hrun:(callFunc f args).run P W=.ok (.enter f args) W:=by
  simp only[callFunc,ajB,run_program,ajC,hfn,hname];cases hb:fn.body with
  |none=>simp[hb]at hbody
  |some c=>simp
 rcases walk y hy W ⟨λ_=>False,0⟩ (mz W) W args.toList (Rel.start W hglob) hvr with⟨_,h⟩|⟨_,_,_,_,_,h,_⟩;refine h.mono λe W' ⟨E',v,av,L',he,_,hav,hv,hR⟩=>?_
 subst hav;simp only[VR]at hv;subst hv;refine⟨_,he,?_⟩;have hheap:∀b,b<W.heap.size->W'.heap[b]?=W.heap[b]?:=λb hb=>hR.frame b hb (λh=>h)
 have hps:∀r∈p,W.sameAt W' r:=λr hr=>by have:=hlt r (by simpa using hr);cases r<;>simp only[World.sameAt,MemPlace.block]at this⊢;simp only[World.cell?];rw[hheap _ this];exact hheap _ this
 refine YE (pa:=p) (pv:=[]) hW' (λb sp hd=>?_) (λsp hsp=>?_) (λ_ _=>?_) rfl ⟨hR.os,hR.output,λi hi=>?_⟩ (λb o hb=>?_) (λj t r h1 h2=>?_);rw[aj6,e1,hres];exact trodAll_cons_mk (shut_bool hb _) trodAll_mk0;rw[aj6,e2];exact Kq hlaid hrow hfull (λt ht=>by simpa using ajE.1 hts t ht) hA0 hps sp (λr hr=>hsp r (by simpa using hr));rw[hvars,aj6,e3];rfl;rw[hheap i hi];rcases hc:W.heap[i]? with _|o;trivial;cases o<;>simp;simp only[World.frozen?];rw[hheap b hb];exact ok_one hres rfl (okWide_bool_mk hb _) j t r h1 h2;rw[show(⟨args.toList⟩:Array Value)=args from rfl,hrun]at h;cases h
open Go Go.ChangeShapes Go.WideShapes Go.ChangeAt
set_option maxHeartbeats 8000000
set_option maxRecDepth 100000
def RdZ(P:Program)(t:TypeId){X:Type}(ec:X->List AV)(ok:X->Prop):Prop :=
 ∀(H:Type) (enc:TypeId×Value->H) (w:World) (fuel:Nat) (cs:List Value) (x:DataW H×List MemPlace),
  DataW.trod enc P w 0 (λ_=>true) true fuel t cs=some x->(∀n∈x.1.weights P t,n<=reachBytes)->∃y,ok y/\VRL (mz w) (ec y) cs
theorem Rd.z{ec:X->List AV}{ok:X->Prop}(h:Rd P t ec ok):RdZ P t ec ok:=λH enc w fuel cs x hx _=>h H enc w fuel cs x hx
theorem qE(ht:P.underlying t=some .string):RdZ P t (λs:List UInt8=>[.str s]) (λs=>s.length<=reachBytes):=λH enc w fuel cs x hx hz=>by obtain⟨s,rfl,rfl,hw⟩:=DataW.trod_string ht hx;exact⟨s.data.toList,hz _ (by simp[DataW.weights]),by simp[VRL,VR]⟩
theorem Fu{H:Type}{P:Program}{e:TypeId}:∀{l:List (DataW H)}{d:DataW H},d∈l->∀n∈d.weights P e,n∈DataW.weightsAll P e l
 | a::l,d,h,n,hn=>by
   rw[DataW.weightsAll];rcases ajM.1 h with rfl|h
   .exact ako _ hn
   .exact akO _ (Fu h n hn)
theorem iH{ec:X->List AV}{ok:X->Prop}(ht:P.underlying t=some (.slice e))(he:RdZ P e ec ok)(hz':decide (0<P.cellsOf e)=true):
  RdZ P t (λl:List X=>[.sl (l.flatMap ec) l.length none]) (λl=>l.length<=maxLen/\∀y∈l,ok y):=λH enc w fuel cs x hx hwt=>by
 have hz:0<P.cellsOf e:=of_decide_eq_true hz';rcases DataW.trod_slice ht hx with⟨rfl,_⟩|⟨a,len,cap,elems,rest,n,_,rfl,rfl,_,hlc,hcap,hel,hget,hsp,_⟩;exact⟨[],⟨amN,amN⟩,by simp only[VRL,VR];exact⟨_,_,rfl,⟨none,0,rfl,ajs _,amN,.inl ⟨rfl,rfl,rfl⟩⟩,rfl⟩⟩;have hspot:cap≠0->a.spot=none:=λhc=>by
  have first:∀r:Option (DataW H×List MemPlace),r≠none->(w.cells? 0 (a.add (0*P.cellsOf e)) (P.cellsOf e)).bind (DataW.trod enc P w 0 (λ_=>true) true n e)=r->a.spot=none:=λr hr h1=>by obtain⟨q,rfl⟩:=Option.ne_none_iff_exists'.1 hr;rw[alx]at h1;obtain⟨cs',h2,_⟩:=h1;obtain⟨h6,h7⟩:=Vw h2;have h8:=h7 0 hz;obtain⟨v,hv⟩:∃v,cs'[0]?=some v:=⟨cs'[0]'amM,ajF _⟩;rw[hv]at h8;have:=acN h8;simpa[Addr.add]using this
  by_cases hl:len=0;obtain⟨r1,r2⟩:=hsp rfl;exact first rest[0]? (by rw[ajF amM];simp) (by simpa[hl]using r2 0 amM)
  exact first elems[0]? (by rw[ajF amM];simp) (hget 0 amM)
 have each:∀i,i<len->∃y,ok y/\(ec y).length=P.cellsOf e/\a.spot=none/\VRC (mz w) (ec y) a.block (a.off+i*P.cellsOf e):=λi hi=>by
  have h1:=hget i hi;obtain⟨q,hq⟩:∃q,elems[i]?=some q:=⟨elems[i]'amM,ajF _⟩;rw[hq,alx]at h1;obtain⟨cs',h2,h3⟩:=h1;obtain⟨y,h4,h5⟩:=he H enc w n cs' q h3 (λm hm=>hwt m (by simp only[DataW.weights,ht];refine alb _ (ako _ (Fu (d:=q.1) ?_ m hm));exact ajy.2 ⟨q,akg hq,rfl⟩))
  obtain⟨h6,h7⟩:=Vw h2;have hl:=h5.length;have hsp:a.spot=none:=hspot amM;refine⟨y,h4,amM,hsp,VRC.of_get λj u hu=>?_⟩;obtain⟨v,h8,h9⟩:=h5.get hu;refine⟨v,?_,h9⟩;have hj:j<P.cellsOf e:=by have:=(ajr.1 hu).1;omega
  have h10:=h7 j hj;rw[h8]at h10;rw[<- h10];have hadd:∀k,a.add k=⟨a.block,a.off+k,none⟩:=λk=>by obtain⟨b,o,s⟩:=a;simp only at hsp;subst hsp;exact Addr.add_mk b o k
  rw[hadd,Addr.add_mk];rfl
 obtain⟨ys,h1,h2⟩:=WH _ len each;refine⟨ys,⟨amM,λy hy=>?_⟩,?_⟩;obtain⟨i,hi⟩:=List.getElem?_of_mem hy;exact(h2 i y hi).1;simp only[VRL];refine⟨_,[],rfl,?_,rfl⟩;simp only[VR];refine⟨_,_,by rw[h1],amM,amN,?_⟩;by_cases hc:cap=0;have:ys=[]:=by have:ys.length=0:=amM;simpa using this
 subst this;exact .inl ⟨rfl,hc,rfl⟩;refine .inr ⟨a.block,a.off,?_,Zs λi y hy=>⟨(h2 i y hy).2.1,(h2 i y hy).2.2.2⟩⟩;have hs:a.spot=none:=hspot hc;cases a;simp only at hs⊢;rw[hs]
theorem j6{H:Type}{P:Program}{us:List TypeId}{gs:List (DataW H)}{n:Nat}:∀{ts:List TypeId}{ds:List (DataW H)},n∈DataW.weightsEach P ts ds->n∈DataW.weightsEach P (ts++us) (ds++gs)
 |[],_,h=>by simp[DataW.weightsEach]at h
 |_::_,[],h=>by simp[DataW.weightsEach]at h
 | t::ts,d::ds,h=>by
   simp only[akd,DataW.weightsEach,ajx]at h⊢;rcases h with h|h
   .exact .inl h
   .exact .inr (j6 h)
def agR(P:Program)(N o:Nat)(fs:List Field){X:Type}(ec:X->List AV)(ok:X->Prop):Prop :=
 ∀(H:Type) (enc:TypeId×Value->H) (w:World) (n:Nat) (cs:List Value),cs.length=N ->
  (∀f∈fs,∃x,DataW.trod enc P w 0 (λ_=>true) true n f.type ((cs.drop f.offset).take (P.cellsOf f.type))=some x/\∀m∈x.1.weights P f.type,m<=reachBytes)->∃y,ok y/\VRL (mz w) (ec y) (cs.drop o)
theorem FD{o:Nat}(h:o=N):agR P N o [] (λ_:Unit=>[]) (λ_=>True):=λH enc w n cs hl _ =>
 ⟨(),trivial,by simp[VRL,h,<- hl]⟩
theorem cQ{o sz:Nat}{f:Field}{fs:List Field}{ec:X->List AV}{ok:X->Prop}{ec':Y->List AV}{ok':Y->Prop}(hf:f.offset=o)(hz:P.cellsOf f.type=sz)(h:RdZ P f.type ec ok)(r:agR P N (o+sz) fs ec' ok'):
  agR P N o (f::fs) (λy:X×Y=>ec y.1++ec' y.2) (λy=>ok y.1/\ok' y.2):=λH enc w n cs hl hx=>by
 obtain⟨x,h1,hw⟩:=hx f amN;obtain⟨y,h2,h3⟩:=h H enc w n _ x h1 hw;obtain⟨z,h4,h5⟩:=r H enc w n cs hl λg hg=>hx g (by simp[hg])
 refine⟨(y,z),⟨h2,h4⟩,?_⟩;have:cs.drop o=(cs.drop f.offset).take (P.cellsOf f.type)++cs.drop (o+sz):=by rw[hf,hz,<- List.drop_drop,ak1]
 rw[this];exact h3.append h5
theorem oT{fs:Array Field}{ec:X->List AV}{ok:X->Prop}(ht:P.underlying t=some (.struct fs))(hN:P.cellsOf t=N)(r:agR P N 0 fs.toList ec ok):RdZ P t ec ok:=λH enc w fuel cs x hx hwt=>by
 subst hN;obtain⟨xs,n,_,rfl,hl,hlen,hf⟩:=DataW.trod_struct ht hx;obtain⟨y,h1,h2⟩:=r H enc w n cs hl λf hfm=>by
  obtain⟨i,hi⟩:=List.getElem?_of_mem hfm;have hi':fs[i]?=some f:=(by simpa using hi);rw[hf i f hi'];have hlt:i<xs.length:=by rw[hlen];have:=(ajr.1 hi).1;simpa using this
  refine⟨xs[i],ajF hlt,λm hm=>hwt m ?_⟩;simp only[DataW.weights,ht];refine DataW.weights_mem_each (j:=i) (t:=f.type) (d:=xs[i].1) ?_ ?_ m hm;rw[akr,hi];rfl;rw[akr,ajF hlt];rfl
 exact⟨y,h1,by simpa using h2⟩
def aaM(P:Program)(ts:List TypeId){X:Type}(ec:X->List AV)(ok:X->Prop):Prop :=
 ∀(H:Type) (enc:TypeId×Value->H) (w:World) (base:Nat) (vs:List Value) (ds:List (DataW H)) (ps:List MemPlace),
  (∀(j:Nat) t v,ts[j]?=some t->vs[j]?=some v->Value.okWide P w .any base t v) ->
  DataW.TrodAll enc P w 0 (λ_=>true) true ts vs ds ps->(∀n∈DataW.weightsEach P ts ds,n<=reachBytes)->∃y,ok y/\VRL (mz w) (ec y) vs
theorem YA :aaM P [] (λ_:Unit=>[]) (λ_=>True):=λH enc w base vs ds ps _ h _=>by obtain⟨rfl,_,_⟩:=trodAll_nil h;exact⟨(),trivial,by simp[VRL]⟩
theorem FE{ts:List TypeId}{a:X->AV}{ok:X->Prop}{ec':Y->List AV}{ok':Y->Prop}(hg:ic P t=some false)(h:RdZ P t (λy=>[a y]) ok)(r:aaM P ts ec' ok'):
  aaM P (t::ts) (λy:X×Y=>a y.1::ec' y.2) (λy=>ok y.1/\ok' y.2):=λH enc w base vs ds ps hok hx hwt=>by
 obtain⟨v,vs',d,ds',p,q,rfl,rfl,rfl,h1,h2⟩:=trodAll_cons hx;obtain⟨fuel,h1⟩:=h1;obtain⟨y,h3,h4⟩:=h H enc w fuel _ _ h1 (λn hn=>hwt n (by rw[DataW.weightsEach];exact ako _ hn));obtain⟨z,h5,h6⟩:=r H enc w base vs' ds' q (λj t v a b=>hok (j+1) t v a b) h2 (λn hn=>hwt n (by rw[DataW.weightsEach];exact akO _ hn));refine⟨(y,z),⟨h3,h5⟩,?_⟩;rw[Z4 hg (hok 0 t v rfl rfl)]at h4;simp only[VRL]at h4⊢;obtain⟨x,xs,e,h7,_⟩:=h4;cases e;exact⟨v,vs',rfl,h7,h6⟩
open Go Go.ChangeShapes Go.WideShapes Go.ChangeAt
theorem RdZ.map{ec:X->List AV}{ok:X->Prop}{ec':Y->List AV}{ok':Y->Prop}(h:RdZ P t ec ok)(m:∀y,ok y->∃z,ok' z/\ec' z=ec y):RdZ P t ec' ok':=λH enc w fuel cs x hx hb=>by obtain⟨y,h1,h2⟩:=h H enc w fuel cs x hx hb;obtain⟨z,h3,h4⟩:=m y h1;exact⟨z,h3,by rw[h4];exact h2⟩
structure VZ(w w':World):Prop where
 heap:∀b,b<w.heap.size->w'.heap[b]?=w.heap[b]?
 size:w.heap.size<=w'.heap.size
 os:w'.os=w.os
 tape:w'.tape=w.tape
 output:w'.output=w.output
theorem VZ.refl(w:World):VZ w w:=⟨λ_ _=>rfl,ajs _,rfl,rfl,rfl⟩
theorem Rel.grown{w0:World}{S0:SB}{L:List Blk}{w':World}(h:Rel w0 S0 E L w)(g:VZ w w'):Rel w0 S0 E L w':=by
 refine⟨λb o v hv=>?_,λi k hk=>?_,h.fresh,h.own,h.inj,h.tkfresh,h.tkown,h.tkloc,h.tkinj,λk hk hs=>?_,ajU h.size g.size,g.os.trans h.os,g.tape.trans h.tape,g.output.trans h.output,h.glob,
  h.gsz.mod λb cs ty fr hb=>⟨cs,ty,fr,by rw[g.heap b (akf.1 hb).1];exact hb,rfl⟩⟩
 have:=h.mem b o v hv;simp only[World.cell?]at this⊢;rw[g.heap b (h.mem_lt hv)];exact this;cases hl:k.live;refine bS.still hl rfl (λt c n sz e ht hc=>?_) (h.blk i k hk);subst e;exact g.heap _ (h.tok_lt hk ht hc);exact bS.worldL hl (λc hc=>g.heap _ (h.loc_lt hk hl hc)) (h.blk i k hk);rw[g.heap k (akK hk h.size)];exact h.frame k hk hs
theorem kw{fn:Func}(hf:P.funcs[f]?=some fn)(hb:fn.body.isSome=true)(hn:(fn.name == "runtime.NumGoroutine")=false){args:List AV}{L:List Blk}{K:AV->List Blk->Prop}{r:AV}(hc:∀ (w0:World) (S0:SB) (E:Env) (w:World) (vs:List Value),Rel w0 S0 E L w->VRL E args vs->Calls P f ⟨vs⟩ w fun e w'=>∃ v,e=.returned v/\VR E r v/\VZ w w')(hk:K r L):af P f args L K:=fun w0 S0 E w vs hR hv=>by
 refine .inl ⟨?_,(hc w0 S0 E w vs hR hv).mono λe w' ⟨v,h1,h2,h3⟩=>⟨E,v,r,L,h1,.refl E,hk,h2,hR.grown h3⟩⟩;simp only[callFunc,ajB,run_program,ajC,hf,hn];cases h:fn.body with
 |none=>simp[h]at hb
 |some c=>simp
theorem Rel.reblk{w0:World}{S0:SB}{L:List Blk}(h:Rel w0 S0 E L w){i:Nat}{c c':List AV}(hL:L[i]?=some (.cells c))(hlen:c'.length=c.length)(hv:∀(j:Nat) (a':AV),c'[j]?=some a'->∃a,c[j]?=some a/\∀v,VR E a v->VR E a' v):Rel w0 S0 E (L.set i (.cells c')) w:=by
 have hi:i<L.length:=(ajr.1 hL).1;have fix:∀(j:Nat) (k:Blk),(L.set i (.cells c'))[j]?=some k->k.live=true->∃k',L[j]?=some k'/\k'.live=true:=λj k hk hl=>by rw[aj1]at hk;split at hk;rename_i e;subst e;exact⟨_,hL,rfl⟩;simp[*]
 have fixs:∀(j n sz:Nat),(L.set i (.cells c'))[j]?=some (.spare n sz)->L[j]?=some (.spare n sz):=λj n sz hk=>by grind
 refine⟨h.mem,λj k hk=>?_,λi hi=>h.fresh i (by simpa using hi),λi k c hk hl hc=>?_,λi j k k' c c' hi li hj lj=>?_,
  λi hi=>h.tkfresh i (by simpa using hi),λi n sz t d hi=>h.tkown i n sz t d (fixs i n sz hi),λi n sz t d j k' c' hi ht hd hj hl=>?_,
  λi n sz t d i' n' sz' t' d' hi ht hd hi'=>h.tkinj i n sz t d i' n' sz' t' d' (fixs i n sz hi) ht hd (fixs i' n' sz' hi'),h.frame,h.size,h.os,h.tape,h.output,h.glob,h.gsz⟩
 rw[aj1]at hk;split at hk;rename_i e;subst e;cases hk;obtain⟨cl,cs,ty,fr,g1,g2,g3,g4,g5,g6⟩:=h.blk _ _ hL;refine⟨cl,cs,ty,fr,g1,g2,g3,by rw[hlen];exact g4,λj a ha=>?_,g6⟩
 grind
 exact h.blk j k hk;obtain⟨k',h1,h2⟩:=fix i k hk hl;exact h.own i k' c h1 h2 hc;obtain⟨k1,h1,h2⟩:=fix i k hi li;obtain⟨k2,h3,h4⟩:=fix j k' hj lj;exact h.inj i j k1 k2 c c' h1 h2 h3 h4;obtain⟨k1,h1,h2⟩:=fix j k' hj hl;exact h.tkloc i n sz t d j k1 c' (fixs i n sz hi) ht hd h1 h2
theorem VR.grow{i sz:Nat}(ht:E.tok i=some ⟨n,sz,none⟩)(h2:l.length=n*sz)(h:VR E (.sl l n (some n)) v):VR E (.gsl l n i sz) v:=by obtain⟨p,c',q1,q2,q3,q4⟩:=h;exact⟨p,c',q1,q2,h2,q4,⟨n,sz,none⟩,ht,ajs _,λ_=>⟨rfl,λ_=>q3 n rfl,amN⟩⟩
theorem V2{own:Nat->Nat->Nat}{Q:Exit->Tm->List Blk->Prop}{T:Tm}{L:List Blk}{lc:bq}(i j sz:Nat){c:List AV}(hL:L[i]?=some (.cells c))(hj:c[j]?=some (.sl l n (some n)))(h2:l.length=n*sz)(h:AW P N own lc Q T (L.set i (.cells (c.set j (.gsl l n L.length sz)))++[.spare n sz])):AW P N own lc Q T L:=λcd hc r hr w0 S0 E a w hst=>by
 obtain⟨r1,r2⟩:=hst.1.addtok (n:=n) (sz:=sz) (lc:=none) R4;have hi:i<L.length:=(ajr.1 hL).1;have hL':(L++[Blk.spare n sz])[i]?=some (.cells c):=by rw[ajw hi];exact hL
 have r3:=r2.reblk hL' (c':=c.set j (.gsl l n L.length sz)) amN λk a' ha=>by rw[aj1]at ha;split at ha;rename_i e;subst e;split at ha;cases ha;exact⟨_,hj,λv hv=>VR.grow amN h2 hv⟩;simp[*];simp[*]
 rw[ak3 _ _ hi]at r3;exact wpIn_mono (h cd hc r hr w0 S0 _ a w ⟨r3,hst.2.1.mono r1,hst.2.2⟩) λe a' w' ⟨w1,S1,E',T1,L1,b,k1,k2,k3⟩=>⟨w1,S1,E',T1,L1,b,r1.trans k1,k2,k3⟩
theorem sk(h:B)(e:Hid B->A:=by intro hB_;simp only[Kon,push_cast,reduceIte,Nat.reduceEqDiff,Nat.reduceAdd,Nat.reduceMul,Nat.reduceSub,Nat.reduceLT,Nat.reduceLeDiff,Int.reduceLT,Int.reduceLE,Int.reduceAdd,Int.reduceSub,Int.reduceNeg,Int.reduceToNat,Int.reduceEq,reduceCtorEq, *];exact hB_.o):A:=e (hid h)
theorem sm(h:B)(e:Hid B->A:=by intro hB_;simp(config:={maxSteps:=2000000}) only[Kon,push_cast,reduceIte,Nat.reduceEqDiff,Nat.reduceAdd,Nat.reduceMul,Nat.reduceSub,Nat.reduceLT,Nat.reduceLeDiff,Int.reduceLT,Int.reduceLE,Int.reduceAdd,Int.reduceSub,Int.reduceNeg,Int.reduceToNat,Int.reduceEq,reduceCtorEq, *];exact hB_.o):A:=e (hid h)
theorem sl(h:B)(e:Hid B->A:=by intro hB_;simp only[push_cast,reduceIte,Nat.reduceEqDiff,Nat.reduceAdd,Nat.reduceMul,Nat.reduceSub,Nat.reduceLT,Nat.reduceLeDiff,Int.reduceLT,Int.reduceLE,Int.reduceAdd,Int.reduceSub,Int.reduceNeg,Int.reduceToNat,Int.reduceEq,reduceCtorEq, *];exact hB_.o):A:=e (hid h)
theorem wk(h:B)(e:Hid B->A:=by
 intro hB_
 repeat' first
  |refine cA ?_
  | (first|refine bG amO ?_|refine ba amO ?_|refine be ?_|refine dN ?_|refine cD (fun _=>?_)|refine aU ?_|refine bI ?_|refine kk1.o _ _ ?_|refine kk1.o ?_|refine kk2.o _ _ ?_|refine kk2.o ?_|refine kk3.o _ _ ?_|refine kk3.o ?_|refine kk4.o _ _ ?_|refine kk4.o ?_|refine kk5.o _ _ ?_|refine kk5.o ?_|refine kk6.o _ _ ?_|refine kk6.o ?_|refine kk7.o _ _ ?_|refine kk7.o ?_|refine bQ (kk1.o _ _ ⟨rfl,rfl⟩) (kk1.o _ _ ⟨rfl,rfl⟩) ?_|refine bQ (kk1.o ⟨rfl,rfl⟩) (kk1.o ⟨rfl,rfl⟩) ?_|refine bQ (kk2.o _ _ ⟨rfl,rfl⟩) (kk2.o _ _ ⟨rfl,rfl⟩) ?_|refine bQ (kk2.o ⟨rfl,rfl⟩) (kk2.o ⟨rfl,rfl⟩) ?_|refine bi (kk1.o _ _ ⟨rfl,rfl⟩) ?_|refine bi (kk1.o ⟨rfl,rfl⟩) ?_|refine bi (kk2.o _ _ ⟨rfl,rfl⟩) ?_|refine bi (kk2.o ⟨rfl,rfl⟩) ?_|refine bi (kk3.o _ _ ⟨rfl,rfl⟩) ?_|refine bi (kk3.o ⟨rfl,rfl⟩) ?_|refine bi (kk4.o _ _ ⟨rfl,rfl⟩) ?_|refine bi (kk4.o ⟨rfl,rfl⟩) ?_|refine bi (kk5.o _ _ ⟨rfl,rfl⟩) ?_|refine bi (kk5.o ⟨rfl,rfl⟩) ?_|refine bi (kk6.o _ _ ⟨rfl,rfl⟩) ?_|refine bi (kk6.o ⟨rfl,rfl⟩) ?_|refine bi (kk7.o _ _ ⟨rfl,rfl⟩) ?_|refine bi (kk7.o ⟨rfl,rfl⟩) ?_)
    simp(config:={maxSteps:=2000000}) only[Kon,push_cast,reduceIte,Nat.reduceEqDiff,Nat.reduceAdd,Nat.reduceMul,Nat.reduceSub,Nat.reduceLT,Nat.reduceLeDiff,Int.reduceLT,Int.reduceLE,Int.reduceAdd,Int.reduceSub,Int.reduceNeg,Int.reduceToNat,Int.reduceEq,reduceCtorEq, *]
  | (first|refine bC amO ?_|refine bz ?_|refine bd ?_|refine bH ?_|refine cI (aT ?_))
    simp only[push_cast,reduceIte,Nat.reduceEqDiff,Nat.reduceAdd,Nat.reduceMul,Nat.reduceSub,Nat.reduceLT,Nat.reduceLeDiff,Int.reduceLT,Int.reduceLE,Int.reduceAdd,Int.reduceSub,Int.reduceNeg,Int.reduceToNat,Int.reduceEq,reduceCtorEq, *]
  |exact cE
  |first|apply cF|apply bD|apply cG|apply bE|apply cH|apply bF
  |refine bh ?_
  |refine bc ?_
  |first|refine bf rfl ?_|refine bg rfl ?_|refine aI rfl ?_ ?_
  |((first|refine aG (λ_=>?_) (λ_=>?_)|refine aS (λ_=>?_) (λ_=>?_))<;>try simp(config:={maxSteps:=2000000}) only[Kon,push_cast,reduceIte,Nat.reduceEqDiff,Nat.reduceAdd,Nat.reduceMul,Nat.reduceSub,Nat.reduceLT,Nat.reduceLeDiff,Int.reduceLT,Int.reduceLE,Int.reduceAdd,Int.reduceSub,Int.reduceNeg,Int.reduceToNat,Int.reduceEq,reduceCtorEq, *])
  |refine And.intro trivial ?_
  |refine And.intro amM ?_
  |refine br rfl (λ_=>?_) (λ_=>?_)
 exact hB_.o):A:=e (hid h)
theorem amU(h:B)(e:Hid B->A:=by intro hB_;refine sk ?_;refine wk ?_;exact hB_.o):A:=e (hid h)
theorem ajo{own:Nat->Nat->Nat}{lf:aQ}(h:aR P own f=some lf.raw){args:List AV}{L:List Blk}{Q:AV->List Blk->Prop}(b:B)(hl:Nat.ble args.length lf.ntmps=true:=by rfl)(e:Hid B->AW P lf.ntmps own lf.code (aij lf.res L Q) (am 0 args) L:=by
 intro hB_;simp only[push_cast]
 repeat' first
  |refine cA ?_
  | (first|refine bG amO ?_|refine ba amO ?_|refine be ?_|refine dN ?_|refine cD (fun _=>?_)|refine aU ?_|refine bI ?_|refine kk1.o _ _ ?_|refine kk1.o ?_|refine kk2.o _ _ ?_|refine kk2.o ?_|refine kk3.o _ _ ?_|refine kk3.o ?_|refine kk4.o _ _ ?_|refine kk4.o ?_|refine kk5.o _ _ ?_|refine kk5.o ?_|refine kk6.o _ _ ?_|refine kk6.o ?_|refine kk7.o _ _ ?_|refine kk7.o ?_|refine bQ (kk1.o _ _ ⟨rfl,rfl⟩) (kk1.o _ _ ⟨rfl,rfl⟩) ?_|refine bQ (kk1.o ⟨rfl,rfl⟩) (kk1.o ⟨rfl,rfl⟩) ?_|refine bQ (kk2.o _ _ ⟨rfl,rfl⟩) (kk2.o _ _ ⟨rfl,rfl⟩) ?_|refine bQ (kk2.o ⟨rfl,rfl⟩) (kk2.o ⟨rfl,rfl⟩) ?_|refine bi (kk1.o _ _ ⟨rfl,rfl⟩) ?_|refine bi (kk1.o ⟨rfl,rfl⟩) ?_|refine bi (kk2.o _ _ ⟨rfl,rfl⟩) ?_|refine bi (kk2.o ⟨rfl,rfl⟩) ?_|refine bi (kk3.o _ _ ⟨rfl,rfl⟩) ?_|refine bi (kk3.o ⟨rfl,rfl⟩) ?_|refine bi (kk4.o _ _ ⟨rfl,rfl⟩) ?_|refine bi (kk4.o ⟨rfl,rfl⟩) ?_|refine bi (kk5.o _ _ ⟨rfl,rfl⟩) ?_|refine bi (kk5.o ⟨rfl,rfl⟩) ?_|refine bi (kk6.o _ _ ⟨rfl,rfl⟩) ?_|refine bi (kk6.o ⟨rfl,rfl⟩) ?_|refine bi (kk7.o _ _ ⟨rfl,rfl⟩) ?_|refine bi (kk7.o ⟨rfl,rfl⟩) ?_)
    simp(config:={maxSteps:=2000000}) only[Kon,push_cast,reduceIte,Nat.reduceEqDiff,Nat.reduceAdd,Nat.reduceMul,Nat.reduceSub,Nat.reduceLT,Nat.reduceLeDiff,Int.reduceLT,Int.reduceLE,Int.reduceAdd,Int.reduceSub,Int.reduceNeg,Int.reduceToNat,Int.reduceEq,reduceCtorEq, *]
  | (first|refine bC amO ?_|refine bz ?_|refine bd ?_|refine bH ?_|refine cI (aT ?_))
    simp only[push_cast,reduceIte,Nat.reduceEqDiff,Nat.reduceAdd,Nat.reduceMul,Nat.reduceSub,Nat.reduceLT,Nat.reduceLeDiff,Int.reduceLT,Int.reduceLE,Int.reduceAdd,Int.reduceSub,Int.reduceNeg,Int.reduceToNat,Int.reduceEq,reduceCtorEq, *]
  |exact cE
  |first|apply cF|apply bD|apply cG|apply bE|apply cH|apply bF
  |refine bh ?_
  |refine bc ?_
  |first|refine bf rfl ?_|refine bg rfl ?_|refine aI rfl ?_ ?_
  |((first|refine aG (λ_=>?_) (λ_=>?_)|refine aS (λ_=>?_) (λ_=>?_))<;>try simp(config:={maxSteps:=2000000}) only[Kon,push_cast,reduceIte,Nat.reduceEqDiff,Nat.reduceAdd,Nat.reduceMul,Nat.reduceSub,Nat.reduceLT,Nat.reduceLeDiff,Int.reduceLT,Int.reduceLE,Int.reduceAdd,Int.reduceSub,Int.reduceNeg,Int.reduceToNat,Int.reduceEq,reduceCtorEq, *])
  |refine And.intro trivial ?_
  |refine And.intro amM ?_
  |refine br rfl (λ_=>?_) (λ_=>?_)
 exact hB_.o):af P f args L Q:=aa h (Nat.le_of_ble_eq_true hl) (e (hid b))
attribute [push_cast] am
theorem u8n(h:n<256):(UInt8.ofNat n).toNat=n:=by simp only[UInt8.toNat_ofNat'];exact Nat.mod_eq_of_lt h
theorem xD:∀(u:Nat),∃c r,Lib.decDigits u=c::r/\48<=c.toNat/\c.toNat<=57/\(c.toNat=48->u=0):=by
 intro u;induction u using Nat.strongRecOn with
 | _ u ih =>
   by_cases h10:u<10
   .refine⟨UInt8.ofNat (48+u),[],by rw[Lib.decDigits,dif_pos h10],?_⟩;rw[u8n amM];omega
   .obtain⟨c,r,e,h1,h2,h3⟩:=ih (u/10) amM;exact⟨c,r++[UInt8.ofNat (48+u%10)],by rw[Lib.decDigits,dif_neg h10,e];rfl,h1,h2,λh=>by have:=h3 h;omega⟩
theorem acd(t:List UInt8):∀(u:Nat),u<=18446744073709551615->Lib.parseUintM 18446744073709551615 0 (Lib.decDigits u++t)=Lib.parseUintM 18446744073709551615 u t:=by
 intro u;induction u using Nat.strongRecOn generalizing t with
 | _ u ih =>
   intro hu;by_cases h10:u<10
   .rw[Lib.decDigits,dif_pos h10];simp only[akd,aj0];rw[Lib.parseUintM,u8n amM,if_pos amM,if_neg amM,if_neg amM];congr 1;omega
   .rw[Lib.decDigits,dif_neg h10,ajD,ih (u/10) amM _ amM];simp only[akd,aj0];rw[Lib.parseUintM,u8n amM,if_pos amM,if_neg amM,if_neg amM];congr 1;omega
theorem UI{u:Nat}(hu:u<=18446744073709551615):Lib.parseUintB 64 (Lib.decDigits u)=.ok u:=by obtain⟨c,r,e,_⟩:=xD u;unfold Lib.parseUintB;rw[if_neg (by rw[e];simp)];have:=acd [] u hu;rw[aj6]at this;exact this
def I64(m:Int):Prop:=-9223372036854775808<=m/\m<=9223372036854775807
theorem Z0{m:Int}(hm:I64 m):Lib.parseIntB 64 (Lib.itoa m)=.ok m:=by obtain⟨h0,h1⟩:=hm;unfold Lib.itoa;by_cases hn:m<0;rw[if_pos hn];simp only[Lib.parseIntB];have e45:(45:UInt8).toNat=45:=rfl;rw[if_pos (.inr e45),UI amM];simp only[e45];simp only[not_true_eq_false,false_and,if_false,true_and,if_true];rw[if_neg amM];congr 1;omega;rw[if_neg hn];obtain⟨c,r,e,h2,h3,_⟩:=xD m.toNat;have hp:=UI (u:=m.toNat) amM;rw[e]at hp⊢;simp only[Lib.parseIntB];rw[if_neg amM,hp];simp only;rw[if_neg amM,if_neg amM,if_neg amM];congr 1;omega
theorem acn(m:Int):∃c r,Lib.itoa m=c::r/\(c.toNat=45\/48<=c.toNat/\c.toNat<=57)/\(c.toNat=48->r=[]):=by unfold Lib.itoa;by_cases hn:m<0;rw[if_pos hn];exact⟨45,_,rfl,.inl rfl,λh=>by simp at h⟩;rw[if_neg hn];obtain⟨c,r,e,h2,h3,h4⟩:=xD m.toNat;refine⟨c,r,e,.inr ⟨h2,h3⟩,λh=>?_⟩;rw[h4 h,Lib.decDigits,dif_pos amM]at e;cases e;rfl
theorem YG{l:List UInt8}{v:Int}(h:Lib.parseIntB 64 l=.ok v):I64 v:=by unfold Lib.parseIntB at h;split at h;cases h;simp only at h;split at h;cases h;cases h;rename_i u _;split at h;cases h;rename_i h1;split at h;cases h;rename_i h2;cases h;unfold I64;by_cases e:(‹UInt8›).toNat=45;simp only[e,true_and,if_true]at h2⊢;omega;simp only[e,not_false_eq_true,true_and,if_false]at h1⊢;omega
def aiw(l:List UInt8):Int:=match Lib.parseIntB 64 l with
 |.ok n=>n
 |.syntax=>0
 |.range=>Lib.intSat 64 l
def UN(l:List UInt8):Bool:=match Lib.parseIntB 64 l with
 |.ok n=>decide (Lib.itoa n=l)
 |_=>false
theorem ad1{m:Int}(hm:I64 m):UN (Lib.itoa m)=true/\aiw (Lib.itoa m)=m:=by simp[UN,aiw,Z0 hm]
theorem Xj{k:IntKind}{zs:List Int}(h:Lib.TabIs P W name k zs)(hg:P.globalNamed name=some g):
  VRC ⟨(mz W).mem,λ_=>none,λ_=>none⟩ (zs.map (AV.int k)) g 0/\∃cs ty fr,W.heap[g]?=some (.cells cs ty fr)/\cs.size=(zs.map (AV.int k)).length:=by
 refine⟨VRC.of_get λi a ha=>?_,?_⟩;obtain⟨z,hz,rfl⟩:=akr ..▸ha |> ajW.1;have hi:=(ajr.1 hz).1;refine⟨.int k z,?_,by simp[VR]⟩;have:=h.cell hg i hi;rw[ajO,hz]at this;simpa[mz]using this;simp only[Lib.TabIs,World.var?,hg,akV]at h;split at h;rename_i cs ty fr he;refine⟨cs,ty,fr,he,?_⟩;rw[Option.some.inj h];simp;cases h
theorem TU{tp:TypeId}{x:Value}(h:W.var? P name=some #[.iface tp x])(hg:P.globalNamed name=some g):
  VRC ⟨(mz W).mem,λ_=>none,λ_=>none⟩ [.iface tp .undef] g 0/\∃cs ty fr,W.heap[g]?=some (.cells cs ty fr)/\cs.size=[AV.iface tp .undef].length:=by
 refine⟨VRC.of_get λi a ha=>?_,?_⟩;cases i with
 | zero =>
   simp only[akn,ajt]at ha;subst ha;have:=World.var?_cell hg h 0;exact⟨.iface tp x,by simpa[mz]using this,by simp[VR]⟩
 |succ i=>simp at ha
 simp only[World.var?,hg,akV]at h;split at h;rename_i cs ty fr he;exact⟨cs,ty,fr,he,by rw[Option.some.inj h];rfl⟩;cases h
theorem Zc{m:Nat->Nat->Option Value}:(∀p∈([]:List (Nat×List AV)),VRC ⟨m,λ_=>none,λ_=>none⟩ p.2 p.1 0/\∃cs ty fr,w.heap[p.1]?=some (.cells cs ty fr)/\cs.size=p.2.length):=λ_ h=>by cases h
theorem eJ{m:Nat->Nat->Option Value}{r:List (Nat×List AV)}(h:VRC ⟨m,λ_=>none,λ_=>none⟩ l g 0/\∃cs ty fr,w.heap[g]?=some (.cells cs ty fr)/\cs.size=l.length)(hr:∀p∈r,VRC ⟨m,λ_=>none,λ_=>none⟩ p.2 p.1 0/\∃cs ty fr,w.heap[p.1]?=some (.cells cs ty fr)/\cs.size=p.2.length):
  ∀p∈(g,l)::r,VRC ⟨m,λ_=>none,λ_=>none⟩ p.2 p.1 0/\∃cs ty fr,w.heap[p.1]?=some (.cells cs ty fr)/\cs.size=p.2.length:=λp hp=>by
 rcases ajM.1 hp with rfl|hp;exact h;exact hr p hp
theorem WY(ho:∀g∈TZ,∃z,(mz w).mem g 0=some (.int .i64 z))(h:∀p∈J4,VRC ⟨(mz w).mem,λ_=>none,λ_=>none⟩ p.2 p.1 0/\∃cs ty fr,w.heap[p.1]?=some (.cells cs ty fr)/\cs.size=p.2.length):mw (mz w).mem/\qz w :=
 ⟨⟨λp hp=>(h p hp).1,ho⟩,λp hp _=>(h p hp).2⟩
open Go Go.Lib
theorem SX(h:W.ShapedOpen Tryz.prog):∀g∈TZ,∃z,(mz W).mem g 0=some (.int .i64 z):=λg hg=>by simp only[TZ,ajI]at hg;subst hg;obtain⟨m,hm⟩:=cell_of_shapedOpen_int (zero:=#[.int .i64 0]) (t:=3) h (of_decide_eq_true amO) amO amO amO amO Tryz.underlying3;exact⟨m,by simpa[mz]using hm⟩
theorem agN{enc:TypeId×Value->H}{base:Nat}{sp:Nat->Bool}{held:Bool}{fuel:Nat}{cs:List Value}{x:DataW H×List MemPlace}(ht:P.underlying t=some (.array n e))(h:DataW.trod enc P w base sp held fuel t cs=some x):cs.length=P.cellsOf t:=by
 cases fuel with
 |zero=>simp[DataW.trod]at h
 | succ fuel =>
   simp only[DataW.trod,ht]at h;split at h
   .assumption
   .cases h
theorem Uw{d:DataW Unit}(h:VarReads P W name d)(hg:P.globalNamed name=some g)(hty:(P.globals[g]?).map (·.type)=some t)(ht:P.underlying t=some (.array n e)):
  ∃cs ty fr,W.heap[g]?=some (.cells cs ty fr)/\cs.size=P.cellsOf t:=by
 obtain⟨g',t',cs,fuel,p,hg',hty',hvar,hd⟩:=h;obtain rfl:=Option.some.inj (hg.symm.trans hg');obtain rfl:=Option.some.inj (hty.symm.trans hty');have hl:=agN ht hd;simp only[World.var?,hg,akV]at hvar;split at hvar;rename_i cs' ty fr he;exact⟨cs',ty,fr,he,by rw[Option.some.inj hvar];simpa using hl⟩;cases hvar
theorem oQ:U8Extra Tryz.prog Tryz.lays196_ren:={n3:=amO,n4:=amO,y3:=amO,y4:=amO,c5:=amO,c119:=amO,c138:=by kernel_rfl}
theorem OP:U8Types Tryz.prog Tryz.lays196_ren:=U8Types.of196 Tryz.lays196
theorem Ye(h:∀i a,l[i]?=some a->∃k z,a=.int k z/\W.cell? ⟨g,i,none⟩=some (.int k z)):VRC ⟨(mz W).mem,λ_=>none,λ_=>none⟩ l g 0 :=
 VRC.of_get λi a ha=>by obtain⟨k,z,rfl,hc⟩:=h i a ha;exact⟨.int k z,by simpa[mz]using hc,by simp[VR]⟩
theorem Zg(h3:VarReads Tryz.prog W "unicode/utf8.first" firstData)(h4:VarReads Tryz.prog W "unicode/utf8.acceptRanges" acceptData)(l:List AV)(hl:kj 0=some l):
  VRC ⟨(mz W).mem,λ_=>none,λ_=>none⟩ l 0 0/\∃cs ty fr,W.heap[0]?=some (.cells cs ty fr)/\cs.size=l.length:=by
 have hT:=utf8Tabs_of_readsT OP oQ h3 h4;have e:kj 0=some ((List.range 256).map λc=>AV.int .u8 (Lib.firstT c:Int)):=amO;rw[e]at hl;obtain rfl:=Option.some.inj hl;refine⟨Ye λi a ha=>?_,?_⟩;simp only[akr,ajW]at ha;obtain⟨c,hc,rfl⟩:=ha;have hi:i<256:=by have:=(ajr.1 hc).1;simpa using this
 have hci:c=i:=by have:=(ajr.1 hc).2;simpa using this.symm
 subst hci;exact⟨_,_,rfl,hT.1 c hi⟩;obtain⟨cs,ty,fr,h1,h2⟩:=Uw h3 oQ.n3 oQ.y3 OP.t119;exact⟨cs,ty,fr,h1,by rw[h2,oQ.c119];simp⟩
theorem ae8:∀(n:Nat) (i:Nat) (a:AV),((List.range n).flatMap λi=>[AV.int .u8 (Lib.accLo i:Int),AV.int .u8 (Lib.accHi i:Int)])[i]?=some a->∃j,j<n/\((i=2*j/\a=.int .u8 (Lib.accLo j:Int))\/(i=2*j+1/\a=.int .u8 (Lib.accHi j:Int)))
 |0,i,a,h=>by simp at h
 | n+1,i,a,h=>by
   have hlen:∀n:Nat,((List.range n).flatMap λi=>[AV.int .u8 (Lib.accLo i:Int),AV.int .u8 (Lib.accHi i:Int)]).length=2*n:=λn=>by
    induction n with
    |zero=>simp
    |succ n ih=>rw[List.range_succ,alZ,ajA,ih];simp;omega
   rw[List.range_succ,alZ]at h;rcases ajT i (2*n)with hi|hi
   .rw[ajw (by rw[hlen];exact hi)]at h;obtain⟨j,hj,hh⟩:=ae8 n i a h;exact⟨j,amM,hh⟩
   .rw[ajG (by rw[hlen];exact hi),hlen]at h;refine⟨n,amM,?_⟩;rcases hk:i-2*n with _|_|k
    .rw[hk]at h;simp at h;exact .inl ⟨amM,h.symm⟩
    .rw[hk]at h;simp at h;exact .inr ⟨amM,h.symm⟩
    .rw[hk]at h;simp at h
theorem ae7(h3:VarReads Tryz.prog W "unicode/utf8.first" firstData)(h4:VarReads Tryz.prog W "unicode/utf8.acceptRanges" acceptData)(l:List AV)(hl:kj 1=some l):
  VRC ⟨(mz W).mem,λ_=>none,λ_=>none⟩ l 1 0/\∃cs ty fr,W.heap[1]?=some (.cells cs ty fr)/\cs.size=l.length:=by
 have hT:=utf8Tabs_of_readsT OP oQ h3 h4;have e:kj 1=some ((List.range 16).flatMap λi=>[AV.int .u8 (Lib.accLo i:Int),AV.int .u8 (Lib.accHi i:Int)]):=amO;rw[e]at hl;obtain rfl:=Option.some.inj hl;refine⟨Ye λi a ha=>?_,?_⟩;obtain⟨j,hj,⟨rfl,rfl⟩|⟨rfl,rfl⟩⟩:=ae8 16 i a ha;exact⟨_,_,rfl,(hT.2 j hj).1⟩;exact⟨_,_,rfl,(hT.2 j hj).2⟩;obtain⟨cs,ty,fr,h1,h2⟩:=Uw h4 oQ.n4 oQ.y4 OP.t139;exact⟨cs,ty,fr,h1,by rw[h2,show Tryz.prog.cellsOf (Tryz.lays196_ren.t 139)=32 by kernel_rfl];rfl⟩
abbrev Atr:=List UInt8×List (List UInt8)
theorem kb(p:Nat->Bool)(xs:List (List UInt8)):AV.refsL p (xs.map AV.str)=true:=AV.refsL_iff.2 λa ha=>by obtain⟨x,_,rfl⟩:=ajy.1 ha;rfl
abbrev atA(a:Atr):List AV:=[.str a.1,.sl (a.2.map AV.str) a.2.length none]
def aB(l:List Atr):List AV:=l.flatMap atA
theorem J6(a:Atr)(l:List Atr):aB (a::l)=.str a.1 :: .sl (a.2.map AV.str) a.2.length none::aB l:=rfl
theorem Rn(l m:List Atr):aB (l++m)=aB l++aB m:=by simp[aB]
theorem ir(l:List Atr):(aB l).length=l.length*2:=by
 induction l with
 |nil=>rfl
 |cons a l ih=>rw[J6];simp only[ajz];omega
theorem gX(p:Nat->Bool):∀l:List Atr,AV.refsL p (aB l)=true
 |[]=>rfl
 |a::l=>by rw[J6];simp[AV.refsL,AV.refs,kb,gX p l]
theorem gu(l:List (List UInt8)):AV.frzL (l.map AV.str)=l.map AV.str:=by rw[AV.frzL_eq,ajS];rfl
theorem dM:∀l:List Atr,AV.frzL (aB l)=aB l
 |[]=>rfl
 |a::l=>by rw[J6];simp only[AV.frzL,AV.frz,gu,dM l]
theorem iw:∀{l:List Atr}{k:Nat},k<l.length->((aB l).drop (k*2)).take 2=atA (l.getD k ([],[]))
 |a::l,0,_=>rfl
 |a::l,k+1,h=>by have ih:=@iw l k (by simpa using h);rw[show(k+1)*2=k*2+1+1 by omega,J6];simpa using ih
abbrev Xl(l:List (List UInt8)):AV:=.sl (l.map AV.str) l.length none
end Go.Proofs.YtdnfjhflkkpokaaGreatDoor.Av
set_option maxRecDepth 100000
namespace Go.Proofs.YtdnfjhflkkpokaaGreatDoor.Av
open Go
def Gz:LSO:=[Ak 2]
def Gy:LSO:=[Ak 3]
def Gx:LSO:=[Aa 6 0,Af 7 6,Ad 8 0]
def Gw:LSO:=[Al 9 8 7]
def Gv:LSO:=[Am 10 2 6 8,Ar 11 2 10,Ba 5,An 2 5 11]
def Gu:List (aw×Kd):=
 [AC 12 3,A0 13 0 5,A3 14 1 13 0 1,od 15 (.bslice false 1 0 [] []) (.read 0 0),A0 16 1 5,A3 17 1 16 0 0,od 18 (.app 0 1 16 [(.str [])] (tm 15) (tm 17)) .eff,BQ 19 14 18,
 BR 20 19 0 0]
def zj:List aw :=
 [⟨(some 21),(.app 1 2 40 [(.str []),(.sl [] 0 (some 0))] (tm 12) (tm 20)),none⟩,⟨(some 3),(.mv (tm 21)),none⟩]
def Gt:LSO:=[Ah 22 8 1,Aa 8 22]
def Gs:LSO:=[Aa 23 3,Aa 2 23]
def ye:aQ:=⟨24,(amF Gz [] (amF Gy [] (.seq (amF Gx [] (amI 0 (amF Gw [] (.seq (amJ 9 0) (.seq (.block 1 (amF Gv Cm (.dregM Gu zj CD))) (.sreg Gt Cl)))))) (amF Gs Cl .ret)))),[(.tmp 2)]⟩
attribute [push_cast] Gz Gy Gx Gw Gv Gu zj Gt Gs
theorem Tx:aR Tryz.prog (λr i=>if r=5/\i=6 then 0 else 1) 16=some ye.raw:=amO
def MY:LSO:=[Aj 2]
def MX:LSO:=[Aa 7 0,Af 8 7,Ad 9 0]
def MW:LSO:=[Al 10 9 8]
def MV:LSO:=[Am 11 2 7 9,Ar 12 2 11,Ba 4,An 2 4 12]
def MU:LSO:=[Aa 13 0,Af 14 13,A9 15 14 60,Aa 16 15,.grp none 16 false
 [AA 17 16 1 4,AB 18 16 1 17,AM 19 16 18,AF 20 16 19 60]
 21 (tm 20)]
def MT:LSO:=[Aj 2]
def MS:LSO:=[Ac 22 1 4,Ab 23 1 22,Af 24 23,Ad 25 0]
def MR:LSO:=[Al 26 25 24]
def MQ:LSO:=[Am 27 1 23 25,Ab 28 1 27,Aa 6 28]
def MP:LSO:=[Aa 29 6,Ax 30 29,A9 31 30 5000]
def Jb:LSO:=[Aj 2]
def Ja:LSO:=[Ah 32 25 1,Aa 25 32]
def I9:LSO:=[Ah 33 9 1,Aa 9 33]
def I8:LSO:=[A6 2]
def JM:aQ:=⟨34,(amF MY [] (.seq (amF MX [] (amI 0 (amF MW [] (.seq (amJ 10 0) (.seq (.block 1 (amF MV Cm (.seq (amF MU Co (amH 21 (.sreg MT []))) (amF MS C0 (amI 2 (amF MR [] (.seq (amJ 26 2) (.seq (.block 3 (amF MQ Cm (amF MP Cm (amH 31 (.sreg Jb []))))) (.sreg Ja Cl))))))))) (.sreg I9 Cl)))))) (amF I8 [] .ret))),[(.tmp 2)]⟩
attribute [push_cast] MY MX MW MV MU MT MS MR MQ MP Jb Ja I9 I8
theorem VJ:amK 13=amL JM:=amO
attribute [push_cast] ye JM
variable {L:List Blk}{K:ajq}
set_option maxHeartbeats 8000000
set_option maxRecDepth 100000
theorem aa7{l:List Atr}{cap:Option Nat}(hl:l.length<=1100000)(hz:∀a∈l,a.2.length<=1100000)(h:K (.sl (aB l) l.length none) L):
  ajp 16 [.sl (aB l) l.length cap] L K:=by
 replace h:=hid h;refine ajo Tx ?_;refine bK (l:=[]) (n:=0) 3 2 rfl (ajX 2).symm ?_;refine aq (λm T' L'=>∃(k:Nat) (C:List AV) (X:List Blk),m=l.length-k/\k<=l.length/\C=aB (l.take k)/\T'=[(8,.int .i64 (k:Int)),(7,.int .i64 l.length),(6,.sl (aB l) l.length cap),(3,.gsl C k L.length 2)]/\L'=L++(.spare k 2::X)) amQ ⟨0,[],[],rfl,aju _,rfl,rfl,rfl⟩ ?_;rintro _ _ _ ⟨k,C,X,rfl,hk,hC,rfl,rfl⟩;by_cases hlt:k<l.length;have g1:(k:Int)<(l.length:Int):=amM;have g2:=ajn k amM;have e3:=iw hlt;have e4:k*2+2<=(aB l).length:=by rw[ir];omega
 obtain⟨⟨nm,vs⟩,ha⟩:∃a,l.getD k ([],[])=a:=⟨_,rfl⟩;have htk:aB (l.take (k+1))=aB (l.take k)++[.str nm,.sl (vs.map AV.str) vs.length none]:=by rw[ajN hlt,Rn,show l[k]=(nm,vs)by rw[<- ha];simp[hlt]];rfl
 have hvs:=hz (nm,vs) (by rw[<- ha];simp[hlt]);simp only at hvs;rw[ha]at e3;simp only[atA]at e3;have e0:AV.frzL (vs.map AV.str)=vs.map AV.str:=gu vs;replace htk:=hid htk;replace hC:=hid hC;clear ha hz;refine wk ?_;exact amR amM amP ⟨k+1,_,_,rfl,hlt,by rw[htk.o,hC.o],rfl,rfl⟩;have hke:k=l.length:=amM;subst hke;have g1:¬(l.length:Int)<(l.length:Int):=amM;rw[ajL]at hC;subst hC;have e0:=dM l;refine wk ?_;refine aJ ?_;simp only[AV.frz,e0];exact ab (by simp only[AV.refs,gX]) h.o
def XS(n:Nat)(a:Atr):Bool:=decide (n<=60)&&decide (a.2.length<=60)&&a.2.all λv=>decide (v.length<=5000)
def XR(l:List Atr):Bool:=l.all (XS l.length)
theorem XQ{l:List Atr}(h:XR l=true):l.length<=60/\∀a∈l,a.2.length<=60/\∀v∈a.2,v.length<=5000:=by simp only[XR,ajE,XS,ajv,decide_eq_true_eq]at h;refine⟨?_,λa ha=>⟨(h a ha).1.2,(h a ha).2⟩⟩;rcases l with _|⟨x,t⟩;simp;exact(h x amN).1.1
theorem ag7{l:List Atr}{cap:Option Nat}(hl:(l.length:Int)<=9223372036854775807)(hz:∀a∈l,(a.2.length:Int)<=9223372036854775807)(h:K (.bool (XR l)) L):
  ajp 13 [.sl (aB l) l.length cap] L K:=by
 obtain⟨R,hR⟩:=ajl (l.all (XS l.length));rw[XR,hR]at h;replace h:=hid h;replace hR:=hid hR;refine ajo VJ ?_;refine aq (λm T' L'=>∃(k:Nat) (X:List Blk),m=l.length-k/\k<=l.length/\Hid ((l.drop k).all (XS l.length)=R)/\T'=[(9,.int .i64 (k:Int)),(8,.int .i64 l.length),(7,.sl (aB l) l.length cap),(0,.sl (aB l) l.length cap)]/\L'=L++X) amQ ⟨0,[],rfl,aju _,hid (by simpa using hR.o),rfl,amN⟩ ?_;rintro _ _ _ ⟨k,X,rfl,hk,hI,rfl,rfl⟩;by_cases hlt:k<l.length;have g1:(k:Int)<(l.length:Int):=amM;have g2:=ajn k amM;have e3:=iw hlt;have e4:k*2+2<=(aB l).length:=by rw[ir];omega
 obtain⟨⟨nm,vs⟩,ha⟩:∃a,l.getD k ([],[])=a:=⟨_,rfl⟩;have hdr:l.drop k=(nm,vs)::l.drop (k+1):=by rw[ajY hlt,<- ha];simp[hlt]
 have hvs:=hz (nm,vs) (by rw[<- ha];simp[hlt]);simp only at hvs;rw[ha]at e3;simp only[atA]at e3;have hI2:=hI.o;rw[hdr,akL]at hI2;have no:XS l.length (nm,vs)=false->K (.bool false) L:=λe=>by rw[e,akp]at hI2;have:=h.o;rwa[<- hI2]at this
 replace no:=hid no;clear hI hdr ha hz hR;by_cases h1:(60:Int)<(l.length:Int);have h':=hid (no.o (by simp[XS];omega));clear hI2;refine wk ?_;exact ab rfl h'.o;by_cases h2:(60:Int)<(vs.length:Int);have h':=hid (no.o (by simp[XS];omega));clear hI2;refine wk ?_;exact ab rfl h'.o;obtain⟨rv,hrv⟩:=ajl (vs.all (λv=>decide (v.length<=5000)));have hfe:XS l.length (nm,vs)=rv:=by rw[XS,hrv,decide_eq_true amM,decide_eq_true (by simp only;omega)];rfl
 rw[hfe]at hI2;replace hI2:=hid hI2;replace hrv:=hid hrv;replace no:=hid (λe:rv=false=>no.o (hfe.trans e));clear hfe;refine wk ?_;refine aq (λm T' L'=>∃j:Nat,m=vs.length-j/\j<=vs.length/\Hid ((vs.drop j).all (λv=>decide (v.length<=5000))=rv)/\T'=[(25,.int .i64 (j:Int)),(24,.int .i64 vs.length),(23,.sl (vs.map AV.str) vs.length none),(9,.int .i64 (k:Int)),(8,.int .i64 l.length),(7,.sl (aB l) l.length cap),(0,.sl (aB l) l.length cap)]/\L'=L++(X++[.cells [.str nm,.sl (vs.map AV.str) vs.length none]])) amQ ⟨0,rfl,aju _,hid (by simpa using hrv.o),rfl,amN⟩ ?_;rintro _ _ _ ⟨j,rfl,hj,hJ,rfl,rfl⟩;by_cases hjl:j<vs.length;have j1:(j:Int)<(vs.length:Int):=amM;have j2:=ajn j amM;obtain⟨v,hv⟩:=ajl (vs.getD j []);have g3:(vs.map AV.str).getD j .undef=.str v:=by rw[<- hv];simp[hjl]
 have hdr:vs.drop j=v::vs.drop (j+1):=by rw[ajY hjl,<- hv];simp[hjl]
 have hJ2:=hJ.o;rw[hdr,akL]at hJ2;clear hv hdr hJ;by_cases h3:(5000:Int)<(v.length:Int);have h':=hid (no.o (by rw[<- hJ2,decide_eq_false amM,akp]));clear hJ2;refine wk ?_;exact ab rfl h'.o;rw[decide_eq_true amM,aj7]at hJ2;replace hJ2:=hid hJ2;refine wk ?_;exact amR amM amP ⟨j+1,rfl,hjl,hJ2,rfl,rfl⟩;have j1:¬(j:Int)<(vs.length:Int):=amM;have hJ2:=hJ.o;rw[alh amM,aly]at hJ2;have hI3:=hI2.o;rw[<- hJ2,aj7]at hI3;replace hI3:=hid hI3;clear hJ hJ2;refine wk ?_;exact amR amM amP ⟨k+1,_,rfl,hlt,hI3,rfl,rfl⟩;have hke:k=l.length:=amM;subst hke;have g1:¬(l.length:Int)<(l.length:Int):=amM;have hI2:=hI.o;rw[ake,aly]at hI2;have h':=h.o;rw[<- hI2]at h';replace h':=hid h';clear hI hI2 hR;refine wk ?_;exact ab rfl h'.o
end Go.Proofs.YtdnfjhflkkpokaaGreatDoor.Av
set_option maxRecDepth 100000
namespace Go.Proofs.YtdnfjhflkkpokaaGreatDoor.Av
open Go
def I7:LSO:=[Aw 2]
def I6:LSO:=[Aa 6 0,o1 7 (.s2bO (tm 6)),Aa 3 7]
def I5:LSO:=[Aa 8 3,Af 9 8,Ad 10 0]
def I4:LSO:=[Al 11 10 9]
def I3:LSO:=[Aa 12 10,Am 13 1 8 10,Ab 14 1 13,Aa 4 12,Aa 5 14]
def I2:LSO:=[Aa 15 5,Cc 16 15,Aa 17 16,.grp none 17 true
 [Ae 18 17 5,og 19 17 true (.bin .leq (tm 18) (.av (.int .u8 90)))]
 20 (tm 19)]
def I1:LSO:=[Aa 21 3,Aa 22 4,Aa 23 5,o1 24 (.bin .add (tm 23) (.av (.int .u8 32))),Am 25 1 21 22,An 1 25 24]
def I0:LSO:=[Ah 26 10 1,Aa 10 26]
def IZ:LSO:=[Aa 27 3,Be 28 27,Aa 2 28]
def yx:aQ:=⟨29,(amF I7 [] (amF I6 Cm (.seq (amF I5 [] (amI 0 (amF I4 [] (.seq (amJ 11 0) (.seq (.block 1 (amF I3 Cv (amF I2 Cp (amG 20 (.sreg I1 C6) .skip)))) (.sreg I0 Cl)))))) (amF IZ Cm .ret)))),[(.tmp 2)]⟩
attribute [push_cast] I7 I6 I5 I4 I3 I2 I1 I0 IZ
theorem TM:aR Tryz.prog (λr i=>if r=1/\i=1 then 2 else 1) 46=some yx.raw:=amO
def IY:LSO:=[Aw 2]
def IX:LSO:=[Ak 3]
def IW:LSO:=[Aa 6 0,Ai 7 46 6,o1 8 (.s2b (tm 7)),Af 9 8,Ad 10 0]
def IV:LSO:=[Al 11 10 9]
def IU:LSO:=[Am 12 1 8 10,Ab 13 1 12,Aa 5 13]
def IT:LSO:=[Aa 14 5,o1 15 (.bin .eql (tm 14) (.av (.int .u8 32))),Aa 16 15,.grp none 16 true
 [Ae 17 16 3,AI 18 16 17,AX 19 16 18 0,Ae 20 16 19,.grp (some (16,true)) 20 false
 [Ag 21 20 3,Ag 22 20 3,AM 23 20 22,Ca 24 20 23 1,og 25 20 false (.iaddr 1 (tm 21) (tm 24)),AB 26 20 1 25,Cd 27 20 26]
 28 (tm 27)]
 29 (tm 28)]
def IS:LSO:=[Aa 30 3,Aa 31 5,AZ 32 31,AU 33 30 32,Aa 3 33]
def IR:LSO:=[Ah 34 10 1,Aa 10 34]
def IQ:LSO:=[Aa 35 3,Af 36 35,A9 37 36 0,Aa 38 37,.grp none 38 true
 [Ae 39 38 3,Ae 40 38 3,AI 41 38 40,Ce 42 38 41 1,Bh 43 38 1 39 42,Az 44 38 1 43,B3 45 38 44]
 46 (tm 45)]
def IP:LSO:=[Aa 47 3,Aa 48 3,Af 49 48,Bc 50 49 1,BT 51 47 50,Aa 3 51]
def EP:LSO:=[Aa 52 3,Be 53 52,Aa 2 53]
def yw:aQ:=⟨54,(amF IY [] (amF IX [] (.seq (amF IW [true,true,true,false,false] (amI 0 (amF IV [] (.seq (amJ 11 0) (.seq (.block 1 (amF IU Cm (.seq (amF IT Cp (amG 29 (.exit 1) .skip)) (.sreg IS Co)))) (.sreg IR Cl)))))) (.seq (amF IQ Co (amG 46 (.sreg IP Cq) .skip)) (amF EP Cm .ret))))),[(.tmp 2)]⟩
attribute [push_cast] IY IX IW IV IU IT IS IR IQ IP EP
theorem TK:amK 104=amL yw:=amO
def IF:LSO:=[Aw 2]
def IE:LSO:=[Ak 3]
def ID:LSO:=[Ad 4 0]
def IC:LSO:=[Aa 6 4,Aa 7 0,Ax 8 7,Al 9 6 8]
def IB:LSO:=[Aa 12 0,Aa 13 4,AK 14 12 13,Aa 5 14]
def IA:LSO:=[Aa 15 5,Cc 16 15,Aa 17 16,.grp none 17 true
 [Ae 18 17 5,og 19 17 true (.bin .leq (tm 18) (.av (.int .u8 90)))]
 20 (tm 19)]
def Iz:LSO:=[Aa 21 5,o1 22 (.bin .sub (tm 21) (.av (.int .u8 65))),o1 23 (.bin .add (tm 22) (.av (.int .u8 97))),Aa 5 23]
def Iy:LSO:=[Aa 24 3,Aa 25 5,AZ 26 25,AU 27 24 26,Aa 3 27]
def Ix:LSO:=[Aa 10 4,Ah 11 10 1,Aa 4 11]
def Iw:LSO:=[Aa 28 3,Be 29 28,Aa 2 29]
def yu:aQ:=⟨30,(amF IF [] (amF IE [] (.seq (amF ID [] (amI 0 (.seq (amF IC Cp (amJ 9 0)) (.seq (.block 1 (amF IB Cp (.seq (amF IA Cp (amG 20 (.sreg Iz Cp) .skip)) (.sreg Iy Co)))) (.sreg Ix Cm))))) (amF Iw Cm .ret)))),[(.tmp 2)]⟩
attribute [push_cast] IF IE ID IC IB IA Iz Iy Ix Iw
theorem TI:amK 49=amL yu:=amO
def Iv:LSO:=[Aw 2]
def Iu:LSO:=[Aa 8 0,Ai 9 49 8,Aa 3 9]
def It:LSO:=[Ak 4]
def Is:LSO:=[Ad 5 0]
def Ir:LSO:=[Aa 10 5,Aa 11 3,Ax 12 11,Al 13 10 12]
def Iq:LSO:=[Aj 6]
def Ip:LSO:=[Aa 16 5,Aa 7 16]
def Io:LSO:=[Aa 17 7,Aa 18 3,Ax 19 18,Al 20 17 19,Aa 21 20,.grp none 21 true
 [Ae 22 21 6,Bt 23 21 22]
 24 (tm 23)]
def Im:LSO:=[Aa 27 3,Aa 28 7,AK 29 27 28,o1 30 (.bin .neq (tm 29) (.av (.int .u8 32))),Aa 6 30]
def Il:LSO:=[Aa 25 7,Ah 26 25 1,Aa 7 26]
def EE:LSO:=[Aa 31 6,A7 32 31,Aa 33 32,.grp none 33 false
 [Ag 34 33 3,Ag 35 33 5,B4 36 33 34 35,Cd 37 33 36,Ag 38 33 37,.grp (some (33,false)) 38 true
 [Ae 39 38 4,AI 40 38 39,AX 41 38 40 0,Ae 42 38 41,.grp (some (38,true)) 42 false
 [Ag 43 42 3,Ag 44 42 5,Ca 45 42 44 1,B4 46 42 43 45,Cd 47 42 46]
 48 (tm 47)]
 49 (tm 48)]
 50 (tm 49)]
def ED:LSO:=[Aa 51 4,Aa 52 3,Aa 53 5,AK 54 52 53,AZ 55 54,AU 56 51 55,Aa 4 56]
def EC:LSO:=[Aa 14 5,Ah 15 14 1,Aa 5 15]
def EB:LSO:=[Aa 57 4,Be 58 57,Aa 2 58]
def yt:aQ:=⟨59,(amF Iv [] (amF Iu Cm (amF It [] (.seq (amF Is [] (amI 0 (.seq (amF Ir Cp (amJ 13 0)) (.seq (.block 1 (amF Iq [] (.seq (amF Ip Cl (amI 2 (.seq (amF Io Cq (amJ 24 2)) (.seq (.block 3 (.sreg Im Co)) (.sreg Il Cm))))) (.seq (amF EE Cp (amG 50 (.exit 1) .skip)) (.sreg ED Cr))))) (.sreg EC Cm))))) (amF EB Cm .ret))))),[(.tmp 2)]⟩
attribute [push_cast] Iv Iu It Is Ir Iq Ip Io Im Il EE ED EC EB
theorem TH:amK 135=amL yt:=amO
def IN:LSO:=[Cf 2,Aj 3]
def IM:LSO:=[Aa 5 0,o1 6 (.bin .geq (tm 5) (.av (.int .u8 48))),Aa 7 6,.grp none 7 true
 [Ae 8 7 0,og 9 7 true (.bin .leq (tm 8) (.av (.int .u8 57)))]
 10 (tm 9),Aa 4 10]
def IL:LSO:=[Aa 11 0,o1 12 (.bin .sub (tm 11) (.av (.int .u8 48))),Aa 2 12,A6 3]
def IK:LSO:=[Aa 14 0,o1 15 (.bin .geq (tm 14) (.av (.int .u8 97))),Aa 16 15,.grp none 16 true
 [Ae 17 16 0,og 18 16 true (.bin .leq (tm 17) (.av (.int .u8 102)))]
 19 (tm 18),Aa 13 19]
def IJ:LSO:=[Aa 20 0,o1 21 (.bin .sub (tm 20) (.av (.int .u8 97))),o1 22 (.bin .add (tm 21) (.av (.int .u8 10))),Aa 2 22,A6 3]
def II:LSO:=[Aa 24 0,Cc 25 24,Aa 26 25,.grp none 26 true
 [Ae 27 26 0,og 28 26 true (.bin .leq (tm 27) (.av (.int .u8 70)))]
 29 (tm 28),Aa 23 29]
def IH:LSO:=[Aa 30 0,o1 31 (.bin .sub (tm 30) (.av (.int .u8 65))),o1 32 (.bin .add (tm 31) (.av (.int .u8 10))),Aa 2 32,A6 3]
def IG:LSO:=[Cf 2,Aj 3]
def yv:aQ:=⟨33,(amF IN [] (.seq (.block 0 (amF IM Co (amG 4 (amF IL Cx .ret) (amF IK Co (amG 13 (amF IJ Cv .ret) (amF II Co (amH 23 (.sreg IH Cv)))))))) (amF IG [] .ret))),[(.tmp 2),(.tmp 3)]⟩
attribute [push_cast] IN IM IL IK IJ II IH IG
theorem TJ:amK 205=amL yv:=amO
def EO:LSO:=[Aw 2,Aj 3]
def EN:LSO:=[Aa 10 0,Ax 11 10,o1 12 (.bin .rem (tm 11) (iv 2)),Ao 13 12 1]
def EM:LSO:=[Aw 2,Aj 3]
def EL:LSO:=[Aa 14 0,Ax 15 14,o1 16 (.bin .quo (tm 15) (iv 2)),o1 17 (.mkslice 1 1 [(.int .u8 0)] (iv 0) (tm 16)),Aa 4 17]
def EK:LSO:=[Ad 5 0]
def EJ:LSO:=[Aa 18 5,Aa 19 0,Ax 20 19,Al 21 18 20]
def EI:LSO:=[Aa 25 0,Aa 26 5,AK 27 25 26,Ai 28 205 27,Aa 24 28,Ap 29 24,Aq 30 24,Aa 6 29,Aa 7 30]
def EH:LSO:=[Aa 32 0,Aa 33 5,Ah 34 33 1,AK 35 32 34,Ai 36 205 35,Aa 31 36,Ap 37 31,Aq 38 31,Aa 8 37,Aa 9 38]
def EG:LSO:=[Aa 39 7,A7 40 39,Aa 41 40,.grp none 41 false
 [Ag 42 41 9,Bq 43 41 42]
 44 (tm 43)]
def EF:LSO:=[Aw 2,Aj 3]
def wW:LSO:=[Aa 45 4,Aa 46 6,o1 47 (.bin .shl (tm 46) (.av (.int .u64 4))),Aa 48 8,o1 49 (.bin .or (tm 47) (tm 48)),AZ 50 49,AU 51 45 50,Aa 4 51]
def wV:LSO:=[Aa 22 5,Ah 23 22 2,Aa 5 23]
def wU:LSO:=[Aa 52 4,Be 53 52,Aa 2 53,A6 3]
def tE:aQ:=⟨54,(amF EO [] (.seq (amF EN Cp (amH 13 (.sreg EM []))) (amF EL Co (.seq (amF EK [] (amI 0 (.seq (amF EJ Cp (amJ 21 0)) (.seq (.block 1 (amF EI CE (amF EH CO (.seq (amF EG Cp (amH 44 (.sreg EF []))) (.sreg wW Ct))))) (.sreg wV Cm))))) (amF wU Cx .ret))))),[(.tmp 2),(.tmp 3)]⟩
attribute [push_cast] EO EN EM EL EK EJ EI EH EG EF wW wV wU
theorem RY:amK 178=amL tE:=amO
def Ep:LSO:=[Cf 2]
def Eo:LSO:=[Aa 3 0,o1 4 (.bin .lss (tm 3) (.av (.int .u8 10)))]
def En:LSO:=[Aa 5 0,o1 6 (.bin .add (.av (.int .u8 48)) (tm 5)),Aa 2 6]
def Em:LSO:=[Aa 7 0,o1 8 (.bin .add (.av (.int .u8 97)) (tm 7)),o1 9 (.bin .sub (tm 8) (.av (.int .u8 10))),Aa 2 9]
def tC:aQ:=⟨10,(amF Ep [] (.seq (amF Eo Cl (amH 4 (.sreg En Cm))) (amF Em Cp .ret))),[(.tmp 2)]⟩
attribute [push_cast] Ep Eo En Em
theorem RW:amK 248=amL tC:=amO
def EA:LSO:=[Aw 2,Aj 3]
def Ez:LSO:=[Ak 4]
def Ey:LSO:=[Aa 9 0,Ai 10 49 9,Aa 5 10]
def Ex:LSO:=[Ad 6 0]
def Ew:LSO:=[Aa 11 6,Ah 12 11 1,Aa 13 5,Ax 14 13,Al 15 12 14]
def Ev:LSO:=[Aj 7]
def Eu:LSO:=[Ad 8 0]
def Et:LSO:=[Aa 18 8,AT 19 18 256,Aa 20 19,.grp none 20 true
 [Ae 21 20 7,Bt 22 20 21]
 23 (tm 22)]
def Es:LSO:=[Aa 26 8,o1 27 (.bin .quo (tm 26) (iv 16)),o1 28 (.conv .u8 (tm 27)),Ai 29 248 28,Aa 30 5,Aa 31 6,AK 32 30 31,AD 33 29 32,Aa 34 33,.grp none 34 true
 [Ae 35 34 8,Cg 36 34 35 16,og 37 34 true (.conv .u8 (tm 36)),Bu 38 34 248 37,Ae 39 34 5,Ae 40 34 6,BV 41 34 40 1,Bi 42 34 39 41,BA 43 34 38 42]
 44 (tm 43)]
def Er:LSO:=[Aa 45 4,Aa 46 8,o1 47 (.conv .u8 (tm 46)),AZ 48 47,AU 49 45 48,Aa 4 49]
def wT:LSO:=[A6 7]
def wS:LSO:=[Aa 24 8,Ah 25 24 1,Aa 8 25]
def wR:LSO:=[Aa 50 7,A7 51 50]
def wQ:LSO:=[Aw 2,Aj 3]
def wP:LSO:=[Aa 16 6,Ah 17 16 2,Aa 6 17]
def wO:LSO:=[Aa 52 0,Ax 53 52,o1 54 (.bin .rem (tm 53) (iv 2)),Ao 55 54 1]
def wN:LSO:=[Aw 2,Aj 3]
def wM:LSO:=[Aa 56 4,Be 57 56,Aa 2 57,A6 3]
def tD:aQ:=⟨58,(amF EA [] (amF Ez [] (amF Ey Cm (.seq (amF Ex [] (amI 0 (.seq (amF Ew Co (amJ 15 0)) (.seq (.block 1 (amF Ev [] (.seq (amF Eu [] (amI 2 (.seq (amF Et Cp (amJ 23 2)) (.seq (.block 3 (.seq (.sdreg Es [.pure,.pure,.pure,(.read 0 0),.pure,.pure,(.read 0 0),.pure,.pure,.pure,.pure,.pure,(.read 0 0),.pure,.pure,.pure,(.read 0 0)] Cu) (amG 44 (amF Er Cq (.sreg wT [])) .skip))) (.sreg wS Cm))))) (amF wR Cl (amH 51 (.sreg wQ [])))))) (.sreg wP Cm))))) (.seq (amF wO Cp (amH 55 (.sreg wN []))) (amF wM Cx .ret)))))),[(.tmp 2),(.tmp 3)]⟩
attribute [push_cast] EA Ez Ey Ex Ew Ev Eu Et Es Er wT wS wR wQ wP wO wN wM
theorem RX:amK 237=amL tD:=amO
attribute [push_cast] yx yu tE tD
variable {L:List Blk}{K:ajq}
set_option maxHeartbeats 8000000
set_option maxRecDepth 100000
def eI(c:UInt8):UInt8:=if 65<=c.toNat/\c.toNat<=90 then c+32 else c
def ag(s:List UInt8):List UInt8:=s.map eI
theorem XB{c:UInt8}(h1:65<=c.toNat)(h2:c.toNat<=90):((eI c).toNat:Int)=(c.toNat:Int)+32:=by rw[eI,if_pos ⟨h1,h2⟩,UInt8.toNat_add];have:(32:UInt8).toNat=32:=rfl;omega
theorem Jo{c:UInt8}(h:¬(65<=c.toNat/\c.toNat<=90)):eI c=c:=by rw[eI,if_neg h]
theorem iP(l:List UInt8):(u8s l).all aaf=true:=by simp only[u8s,List.all_map,ajE];intro x _;have:=x.toNat_lt;simp[aaf]
theorem ii(l:List UInt8):(u8s l).map Xi=l:=by
 induction l with
 |nil=>rfl
 | cons x l ih =>
   simp only[u8s,ajP,ajS]at ih⊢;rw[ih];simp[Xi]
theorem TP(l:List UInt8)(c:UInt8):u8s (l++[c])=u8s l++[.int .u8 c.toNat]:=by simp[u8s]
theorem U8{s:List UInt8}{k:Nat}(h:k<s.length):ag (s.take (k+1))=ag (s.take k)++[eI (s.getD k 0)]:=by rw[ajN h,ag,ajV];simp[ag,h]
theorem bu{s:List UInt8}(hs:(s.length:Int)<=140737488351232)(h:K (.str (ag s)) L):ajp 49 [.str s] L K:=by
 replace h:=hid h;refine ajo TI ?_;refine bK (l:=[]) (n:=0) 3 1 rfl (ajX 1).symm ?_;refine aq (λn T' L'=>∃(k:Nat) (v:List AV),n=s.length-k/\k<=s.length/\v=u8s (ag (s.take k))/\T'=[(4,.int .i64 (k:Int)),(3,.gsl v k L.length 1),(2,.str []),(0,.str s)]/\L'=L++[.spare k 1]) amQ ⟨0,[],rfl,aju _,rfl,rfl,rfl⟩ ?_;rintro _ _ _ ⟨k,v,rfl,hk,rfl,rfl,rfl⟩;by_cases hlt:k<s.length
 .have h1:(k:Int)<(s.length:Int):=amM;have h2:=ajn k amM;have hsucc:=hid (U8 hlt);have e:s.getD k 0=s.getD k 0:=rfl;obtain⟨c,hc⟩:=ajl (s.getD k 0);rw[hc]at hsucc;have hc255:=c.toNat_lt;by_cases hu:65<=c.toNat/\c.toNat<=90;have u1:(65:Int)<=(c.toNat:Int):=amM;have u2:(c.toNat:Int)<=90:=amM;have u3:=hid (XB hu.1 hu.2);have u4:IntKind.u8.wrap ((c.toNat:Int)-65)=(c.toNat:Int)-65:=cZ amM amM;have u5:IntKind.u8.wrap ((c.toNat:Int)-65+97)=(c.toNat:Int)-65+97:=cZ amM amM;clear hu;refine wk ?_;refine amR amM amQ ⟨k+1,_,rfl,hlt,?_,rfl,rfl⟩;rw[hsucc.o,TP,u3.o];simp only[show(c.toNat:Int)-65+97=c.toNat+32 by omega]
  .have u3:=hid (Jo hu);have u4:¬((65:Int)<=(c.toNat:Int)/\(c.toNat:Int)<=90):=amM;have u5:(decide ((65:Int)<=(c.toNat:Int))&&decide ((c.toNat:Int)<=90))=false:=(by simp;omega);clear hu;refine wk ?_
   all_goals first
    |omega
    | (refine amR amM (CutS (b := by simp)) ⟨k + 1, _, rfl, hlt, ?_, rfl, rfl⟩
       rw[hsucc.o,TP,u3.o])
 have hke:k=s.length:=amM;subst hke;have h1:¬(s.length:Int)<(s.length:Int):=amM;have e1:=iP (ag s);have e2:=ii (ag s);have e3:s.take s.length=s:=ajL;refine wk ?_;exact ab rfl h.o
theorem xZ{s:List UInt8}(hs:(s.length:Int)<=140737488351232)(h:K (.str (ag s)) L):ajp 46 [.str s] L K:=by
 replace h:=hid h;refine ajo TM ?_;refine aq (λn T' L'=>∃(k:Nat) (v:List AV),n=s.length-k/\k<=s.length/\v=u8s (ag (s.take k)++s.drop k)/\T'=[(10,.int .i64 (k:Int)),(9,.int .i64 s.length),(8,.lsl L.length 0 s.length none 1),(3,.lsl L.length 0 s.length none 1),(2,.str [])]/\L'=L++[.bytes v]) amQ ⟨0,_,rfl,aju _,rfl,rfl,rfl⟩ ?_;rintro _ _ _ ⟨k,v,rfl,hk,hv,rfl,rfl⟩;by_cases hlt:k<s.length
 .have h1:(k:Int)<(s.length:Int):=amM;have h2:=ajn k amM;obtain⟨c,hc⟩:=ajl (s.getD k 0);have hd:s.drop k=c::s.drop (k+1):=by rw[ajY hlt,<- hc,ajO,ajF hlt];rfl
  have hlk:(ag (s.take k)).length=k:=(by simp[ag];omega);have hv1:v=u8s (ag (s.take k)) ++ .int .u8 c.toNat::u8s (s.drop (k+1)):=(by rw[hv,hd];simp[u8s]);have hl2:(u8s (ag (s.take k))).length=k:=(by simp[u8s,hlk]);have hvl:v.length=s.length:=(by rw[hv];simp[u8s,ag];omega);have hvk:k<v.length:=amM;have hvg:v.getD k .undef=.int .u8 c.toNat:=(by rw[hv1];simp[ajO,ajG,hl2]);have hsucc:=U8 hlt;rw[hc]at hsucc;have hnew:u8s (ag (s.take (k+1))++s.drop (k+1))=u8s (ag (s.take k)) ++ .int .u8 (eI c).toNat::u8s (s.drop (k+1)):=(by rw[hsucc];simp[u8s]);have hspl:∀x,v.take k++x::v.drop (k+1)=u8s (ag (s.take k))++x::u8s (s.drop (k+1)):=λx=>by rw[hv1,List.take_left' hl2,List.drop_append,hl2,alh amM,show k+1-k=1 by omega];rfl
  clear hv hd hlk hsucc;replace hv1:=hid hv1;replace hnew:=hid hnew;replace hspl:=hid hspl;have hc255:=c.toNat_lt;by_cases hu:65<=c.toNat/\c.toNat<=90;have u1:(65:Int)<=(c.toNat:Int):=amM;have u2:(c.toNat:Int)<=90:=amM;have u3:=hid (XB hu.1 hu.2);have u4:IntKind.u8.wrap ((c.toNat:Int)+32)=(c.toNat:Int)+32:=cZ amM amM;clear hu;refine wk ?_;refine amR amM amQ ⟨k+1,_,rfl,hlt,?_,rfl,rfl⟩;rw[hnew.o,u3.o];exact hspl.o _
  .have u3:=hid (Jo hu);have u5:(decide ((65:Int)<=(c.toNat:Int))&&decide ((c.toNat:Int)<=90))=false:=(by simp;omega);clear hu;refine wk ?_
   all_goals first
    |omega
    | (refine amR amM (CutS (b := by simp)) ⟨k + 1, _, rfl, hlt, ?_, rfl, rfl⟩
       rw[hnew.o,u3.o];exact hv1.o)
 have hke:k=s.length:=amM;subst hke;have h1:¬(s.length:Int)<(s.length:Int):=amM;have hv1:v=u8s (ag s):=by rw[hv];simp
 clear hv;subst hv1;have e1:=iP (ag s);have e2:=ii (ag s);have e4:(u8s (ag s)).length=s.length:=by simp[u8s,ag]
 have e5:(u8s (ag s)).take s.length=u8s (ag s):=by rw[<- e4];exact ajL
 refine wk ?_;exact ab rfl h.o
theorem kB{s:List UInt8}(hs:(s.length:Int)<=100000)(h:K (.str (ag s)) L):ajp 49 [.str s] L K:=bu amM h
theorem Js{s:List UInt8}(hs:(s.length:Int)<=100000)(h:K (.str (ag s)) L):ajp 46 [.str s] L K:=xZ amM h
def jp(c:UInt8):Option Nat:=if 48<=c.toNat/\c.toNat<=57 then some (c.toNat-48)else if 97<=c.toNat/\c.toNat<=102 then some (c.toNat-87)else if 65<=c.toNat/\c.toNat<=70 then some (c.toNat-55)else none
theorem J3{c:UInt8}{x:Nat}(h:jp c=some x):x<16:=by unfold jp at h;split at h;cases h;omega;split at h;cases h;omega;split at h;cases h;omega;cases h
theorem aal{c:UInt8}{L:List Blk}{K:ajq}(h:K (.tup [.int .u8 ((jp c).getD 0:Nat),.bool (jp c).isSome]) L):ajp 205 [.int .u8 c.toNat] L K:=by
 have hc:=c.toNat_lt;obtain⟨n,hn⟩:=ajl (c.toNat);unfold jp at h;rw[hn]at h hc⊢;clear hn;refine aa TJ (by simp[yv]) ?_;simp only[yv,am];by_cases h1:48<=n/\n<=57;rw[if_pos h1]at h;replace h:=hid h;obtain⟨a1,a2⟩:=h1;have b1:(48:Int)<=(n:Int):=amM;have b2:(n:Int)<=57:=amM;have b3:IntKind.u8.wrap ((n:Int)-48)=(n:Int)-48:=cZ amM amM;clear a1 a2;refine wk ?_;refine ac ?_;have:=h.o;simpa[show((n-48:Nat):Int)=(n:Int)-48 by omega]using this
 .rw[if_neg h1]at h;have c1:(decide ((48:Int)<=(n:Int))&&decide ((n:Int)<=57))=false:=(by simp;omega);by_cases h2:97<=n/\n<=102;rw[if_pos h2]at h;replace h:=hid h;obtain⟨a1,a2⟩:=h2;have b1:(97:Int)<=(n:Int):=amM;have b2:(n:Int)<=102:=amM;have b4:IntKind.u8.wrap ((n:Int)-97)=(n:Int)-97:=cZ amM amM;have b5:IntKind.u8.wrap ((n:Int)-97+10)=(n:Int)-97+10:=cZ amM amM;clear a1 a2 h1;refine wk ?_;refine ac ?_;have:=h.o;simpa[show((n-87:Nat):Int)=(n:Int)-97+10 by omega]using this
  .rw[if_neg h2]at h;have c2:(decide ((97:Int)<=(n:Int))&&decide ((n:Int)<=102))=false:=(by simp;omega);by_cases h3:65<=n/\n<=70;rw[if_pos h3]at h;replace h:=hid h;obtain⟨a1,a2⟩:=h3;have b1:(65:Int)<=(n:Int):=amM;have b2:(n:Int)<=70:=amM;have b4:IntKind.u8.wrap ((n:Int)-65)=(n:Int)-65:=cZ amM amM;have b5:IntKind.u8.wrap ((n:Int)-65+10)=(n:Int)-65+10:=cZ amM amM;clear a1 a2 h1 h2;refine wk ?_;refine ac ?_;have:=h.o;simpa[show((n-55:Nat):Int)=(n:Int)-65+10 by omega]using this
   .rw[if_neg h3]at h;have c3:(decide ((65:Int)<=(n:Int))&&decide ((n:Int)<=70))=false:=(by simp;omega);replace h:=hid h;clear h1 h2 h3
    repeat' first
     |refine cA ?_
     | (first|refine bG amO ?_|refine ba amO ?_|refine be ?_|refine dN ?_|refine cD (fun _=>?_)|refine aU ?_|refine bI ?_)
       refine sm ?_
     | (first|refine bC amO ?_|refine bz ?_|refine bd ?_|refine bH ?_|refine cI (aT ?_))
       refine sl ?_
     |exact cE
     |first|apply cF|apply bD|apply cG|apply bE|apply cH|apply bF
     |refine bh ?_
     |refine bc ?_
     |first|refine bf rfl ?_|refine bg rfl ?_|refine aI rfl ?_ ?_|refine bm rfl (λ_=>?_) (λ_=>?_)|refine bj rfl (λ_=>?_) (λ_=>?_)
     |((first|refine aG (λ_=>?_) (λ_=>?_)|refine aS (λ_=>?_) (λ_=>?_))<;>try refine sm ?_)
     |refine And.intro trivial ?_
     |refine And.intro amM ?_
     |refine br rfl (λ_=>?_) (λ_=>?_)
     |refine And.intro ?_ ?_
    all_goals first
     |omega
     |(refine ac ?_;simpa using h.o)
def Q4(a b:UInt8):Option UInt8:=match jp a,jp b with
 |some x,some y=>some (UInt8.ofNat (16*x+y))
 |_,_=>none
def Oj(a b:UInt8):AV:=match Q4 a b with
 |some c=>.tup [.str [c],.bool true]
 |none=>.tup [.str [],.bool false]
theorem aho:∀x y:_root_.Fin 16,IntKind.u8.wrap (((BitVec.ofInt IntKind.u8.bits (IntKind.u8.wrap ((x.val:Int)*2^min 4 IntKind.u8.bits)) |||BitVec.ofInt IntKind.u8.bits (y.val:Int)).toNat:Nat):Int)=16*(x.val:Int)+(y.val:Int):=by decide +kernel
theorem adn{a b:UInt8}(h:K (Oj a b) L):ajp 178 [.str [a,b]] L K:=by
 have hl:[a,b].length=2:=rfl;have ha:[a,b].getD 0 0=a:=rfl;have hb:[a,b].getD 1 0=b:=rfl;have d1:IntKind.i64.wrap (Int.tdiv 2 2)=1:=by decide
 have d2:Int.tmod 2 2=0:=by decide
 have d3:fq [AV.int IntKind.u8 0] 1=[AV.int IntKind.u8 0]:=rfl;have d4:IntKind.i64.wrap 1=1:=by decide
 have d5:IntKind.i64.wrap 2=2:=by decide
 replace h:=hid h;refine ajo RY ?_;refine aq (λn T' L'=>(n=1/\T'=[(5,.int .i64 0),(4,.lsl L.length 0 0 (some 1) 1),(0,.str [a,b])]/\L'=L++[.cells [.int .u8 0]])\/(n=0/\∃x y:Nat,Hid (jp a=some x)/\Hid (jp b=some y)/\T'=[(5,.int .i64 2),(4,.lsl (L.length+1) 0 1 none 1),(0,.str [a,b])]/\L'=L++[.dead,.cells [.int .u8 ((16*x+y:Nat):Int)]])) (n0:=1) (T0:=[(5,.int .i64 0),(4,.lsl L.length 0 0 (some 1) 1),(0,.str [a,b])]) (L0:=L++[.cells [.int .u8 0]]) amQ (.inl ⟨rfl,rfl,rfl⟩) ?_;rintro _ _ _ (⟨rfl,rfl,rfl⟩|⟨rfl,x,y,hx,hy,rfl,rfl⟩);rcases hx:jp a with _|x;have h':=h.o;simp only[Oj,Q4,hx]at h';replace h':=hid h';have e1:(jp a).getD 0=0:=by rw[hx];rfl
 have e2:(jp a).isSome=false:=by rw[hx];rfl
 clear hx;have kk1:=@hid _ @aal;refine wk ?_;exact ab rfl h'.o;have e1:(jp a).getD 0=x:=by rw[hx];rfl
 have e2:(jp a).isSome=true:=by rw[hx];rfl
 have hx':=hid hx;rcases hy:jp b with _|y;have h':=h.o;simp only[Oj,Q4,hx,hy]at h';replace h':=hid h';have e3:(jp b).getD 0=0:=by rw[hy];rfl
 have e4:(jp b).isSome=false:=by rw[hy];rfl
 clear hx hy;have kk1:=@hid _ @aal;refine wk ?_;exact ab rfl h'.o;have e3:(jp b).getD 0=y:=by rw[hy];rfl
 have e4:(jp b).isSome=true:=by rw[hy];rfl
 have hy':=hid hy;have e5:=aho ⟨x,J3 hx⟩ ⟨y,J3 hy⟩;simp only at e5;clear hx hy;have kk1:=@hid _ @aal;refine wk ?_;refine ak 0 _ _ amM amP (.inr ⟨rfl,x,y,hid rfl,hid rfl,rfl,?_⟩)
 first|rfl|rw[e5]
 have h':=h.o;simp only[Oj,Q4,hx.o,hy.o]at h';replace h':=hid h';have lx:=J3 hx.o;have ly:=J3 hy.o;have u1:aaf (.int .u8 (16*(x:Int)+(y:Int)))=true:=rfl;have u2:Xi (.int .u8 (16*(x:Int)+(y:Int)))=UInt8.ofNat (16*x+y):=by simp only[Xi];rw[show(16*(x:Int)+(y:Int)).toNat=16*x+y by omega]
 refine wk ?_;exact ab rfl h'.o
def Fo(b:List UInt8):Bool:=b.isEmpty ||b.getLast? == some 32
def aM(b:List UInt8)(c:UInt8):List UInt8:=if c=32/\Fo b=true then b else b++[c]
def bY(s:List UInt8):List UInt8:=s.foldl aM []
def dy(b:List UInt8):List UInt8:=if b.getLast?=some 32 then b.dropLast else b
def bT(s:List UInt8):List UInt8:=dy (bY (ag s))
theorem QS(b:List UInt8)(c:UInt8):(aM b c).length<=b.length+1:=by unfold aM;split<;>simp
theorem xP{s:List UInt8}{k:Nat}(h:k<s.length):bY (s.take (k+1))=aM (bY (s.take k)) (s.getD k 0):=by rw[ajN h,bY,alS];simp[bY,h]
theorem oN(s:List UInt8):∀k,(bY (s.take k)).length<=k
 |0=>by simp[bY]
 | k+1=>by
   have ih:=oN s k;by_cases h:k<s.length
   .rw[xP h];have:=QS (bY (s.take k)) (s.getD k 0);omega
   .rw[aj3 amM,<- aj3 (l:=s) (i:=k) amM];omega
theorem UB{s:List UInt8}(hs:(s.length:Int)<=100000)(h:K (.str (bT s)) L):ajp 104 [.str s] L K:=by
 replace h:=hid h;refine aa TK (by simp[yw]) ?_;simp only[yw,am];obtain⟨t,ht⟩:=ajl (ag s);have htl:(t.length:Int)<=100000:=by rw[<- ht];simpa[ag]using hs
 have kk1:=@amT _ _ _ _ (Js hs);refine wk ?_;refine bK (l:=[]) (n:=0) 3 1 rfl (ajX 1).symm ?_;refine aq (λn T' L'=>∃(k:Nat) (b:List UInt8) (v:List AV) (m:Nat),n=t.length-k/\k<=t.length/\b=bY (t.take k)/\v=u8s b/\m=b.length/\T'=[(10,.int .i64 (k:Int)),(9,.int .i64 t.length),(8,.sl (u8s t) t.length none),(3,.gsl v m L.length 1),(2,.str [])]/\L'=L++[.spare m 1]) amQ ⟨0,[],[],0,rfl,aju _,rfl,rfl,rfl,rfl,rfl⟩ ?_;rintro _ _ _ ⟨k,b,v,m,rfl,hk,hb,rfl,rfl,rfl,rfl⟩;replace hb:=hid hb;by_cases hlt:k<t.length;have h1:(k:Int)<(t.length:Int):=amM;have h2:=ajn k amM;have hsucc:=hid (xP hlt);obtain⟨c,hc⟩:=ajl (t.getD k 0);have hg:(u8s t).getD k .undef=.int .u8 c.toNat:=by simp[u8s,hlt,<- hc]
 have hlk:k<(u8s t).length:=by simpa[u8s]using hlt
 rw[hc]at hsucc;have hbl:b.length<=k:=by rw[hb.o];exact oN t k
 have hstep:∀b',b'=aM b c->b'=bY (t.take (k+1)):=λb' e=>by rw[hsucc.o,<- hb.o];exact e
 have c32:((c.toNat:Int)=32)↔c=32:=⟨λe=>alp.1 (by have:(32:UInt8).toNat=32:=rfl;omega),λe=>by rw[e];rfl⟩;replace hstep:=hid hstep;replace c32:=hid c32;clear hsucc hb hc;have hub:(u8s b).length=b.length:=by simp[u8s]
 have rest:∀b',b'=aM b c->b'.length<=b.length+1:=λb' e=>by rw[e];exact QS b c
 clear rest;by_cases hc:(c.toNat:Int)=32;rcases alE b with hb0|⟨d,x,hb0⟩;have e0:(b.length:Int)=0:=by rw[hb0];rfl
 have e1:=hid (hstep.o b (by rw[aM,if_pos ⟨c32.o.1 hc,by rw[hb0];rfl⟩]));clear hb0;refine wk ?_;exact amR amM amQ ⟨k+1,b,_,_,rfl,hlt,e1.o,rfl,rfl,rfl,rfl⟩;have e0:¬(b.length:Int)=0:=by rw[hb0];simp;omega
 have e1:IntKind.i64.wrap ((b.length:Int)-1)=(d.length:Int):=by rw[ae amM amM,hb0];simp
 have e2:(u8s b).getD d.length .undef=.int .u8 x.toNat:=by rw[hb0];simp[u8s,ajO]
 have e3:d.length<(u8s b).length:=by rw[hb0];simp[u8s]
 have e4:(d.length:Int)<(b.length:Int):=by rw[hb0];simp;omega
 have x32:x=32↔(x.toNat:Int)=32:=⟨λe=>by rw[e];rfl,λe=>alp.1 (by have:(32:UInt8).toNat=32:=rfl;omega)⟩;have hend:Fo b=true↔x=32:=by rw[hb0];simp[Fo]
 replace hb0:=hid hb0;replace x32:=hid x32;replace hend:=hid hend;by_cases hx:(x.toNat:Int)=32;have e5:=hid (hstep.o b (by rw[aM,if_pos ⟨c32.o.1 hc,hend.o.2 (x32.o.2 hx)⟩]));refine wk ?_;exact amR amM amQ ⟨k+1,b,_,_,rfl,hlt,e5.o,rfl,rfl,rfl,rfl⟩;have e5:=hid (hstep.o (b++[c]) (by rw[aM,if_neg λe=>hx (x32.o.1 (hend.o.1 e.2))]));refine wk ?_;exact amR amM amQ ⟨k+1,b++[c],_,_,rfl,hlt,e5.o,(by rw[TP,hc]),amN,rfl,rfl⟩;have e1:=hid (hstep.o (b++[c]) (by rw[aM,if_neg λe=>hc (c32.o.2 e.1)]));refine wk ?_;exact amR amM amQ ⟨k+1,b++[c],_,_,rfl,hlt,e1.o,(TP b c).symm,amN,rfl,rfl⟩
 .have hke:k=t.length:=amM;subst hke;have h1:¬(t.length:Int)<(t.length:Int):=amM;have hbl:b.length<=t.length:=(by rw[hb.o];exact oN t _);have hub:(u8s b).length=b.length:=(by simp[u8s]);have hfin:dy b=bT s:=(by rw[bT,ht,hb.o,ajL]);have e1:=iP b;have e2:=ii b;replace hb:=hid hfin;clear hfin;rcases alE b with hb0|⟨d,x,hb0⟩;have e0:¬(0:Int)<(b.length:Int):=(by rw[hb0];simp);have e3:=hid (show b=bT s by rw[<- hb.o,hb0];rfl);clear hb0;refine wk ?_;refine ab rfl ?_;rw[e3.o];exact h.o
  .have e0:(0:Int)<(b.length:Int):=(by rw[hb0];simp;try omega);have e3:IntKind.i64.wrap ((b.length:Int)-1)=(d.length:Int):=(by rw[ae amM amM,hb0];simp);have e4:(u8s b).getD d.length .undef=.int .u8 x.toNat:=(by rw[hb0];simp[u8s,ajO]);have e5:d.length<(u8s b).length:=(by rw[hb0];simp[u8s]);have e6:(d.length:Int)<(b.length:Int):=(by rw[hb0];simp;omega);have e7:(u8s b).take d.length=u8s d:=(by rw[hb0];simp[u8s]);have e10:(u8s d).length=d.length:=(by simp[u8s]);have e8:=iP d;have e9:=ii d;have x32:x=32↔(x.toNat:Int)=32:=⟨λe=>by rw[e];rfl,λe=>alp.1 (by have:(32:UInt8).toNat=32:=rfl;omega)⟩;have htr:dy b=if x=32 then d else b:=by rw[hb0];simp[dy]
   replace hb0:=hid hb0;replace htr:=hid htr;by_cases hx:(x.toNat:Int)=32;have r:=hid (show d=bT s by rw[<- hb.o,htr.o,if_pos (x32.2 hx)]);replace x32:=hid x32;refine wk ?_;refine ab rfl ?_;rw[r.o];exact h.o;have r:=hid (show b=bT s by rw[<- hb.o,htr.o,if_neg λe=>hx (x32.1 e)]);replace x32:=hid x32;refine wk ?_;refine ab rfl ?_;rw[r.o];exact h.o
end Go.Proofs.YtdnfjhflkkpokaaGreatDoor.Av
