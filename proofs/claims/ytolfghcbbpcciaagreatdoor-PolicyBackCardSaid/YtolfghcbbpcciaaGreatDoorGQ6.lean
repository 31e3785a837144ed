/- Joined texts of the walk, made small by a program. -/
import Derived.Test.YtolfghcbbpcciaaGreatDoorGQ5
import Derived.Test.YtolfghcbbpcciaaGreatDoorGQ4
import Derived.Test.YtolfghcbbpcciaaGreatDoorGP5
import Derived.Test.YtolfghcbbpcciaaGreatDoorRows
import Derived.KernelRfl
import Derived.Test.YtolfghcbbpcciaaGreatDoorGQ3
import Derived.Shelf.Strings.Builder1
import Derived.Shelf.Strings.Builder2
import Derived.Shelf.Strings.OnBuilder
import Derived.Shelf.Small.Bits
import Derived.Shelf.Small.Strs
import Derived.Shelf.Strconv.Itoa0
import Derived.Shelf.Strconv.Itoa1
import Derived.Shelf.LaysM
import Derived.Shelf.Strconv.Itoa2
import Derived.Shelf.Strconv.Itoa3
import Derived.Shelf.Strconv.Itoa4
import Derived.Shelf.Strconv.ParseIntEmpty
import Derived.Shelf.Strconv.Clone
import Derived.Shelf.Strconv.SyntaxError
import Derived.Shelf.LaysC
import Derived.Shelf.Strconv.ToError
import Derived.Shelf.Strconv.Lower
import Derived.Shelf.Strconv.ParseUint10
import Derived.Shelf.Strconv.ParseUint10Empty
import Derived.Shelf.Strconv.ParseUint10Any
import Derived.Shelf.Strconv.ParseInt10
import Derived.Shelf.Strconv.RangeError
import Derived.Shelf.Strconv.ToErrorRange
import Derived.Shelf.Strconv.ParseUintEmpty
import Derived.Shelf.Strconv.ParseUint10b64
import Derived.Shelf.Strconv.ParseUint10b32
import Derived.Shelf.Strconv.ParseUint10b16
import Derived.Shelf.Strconv.ParseUint10b8
import Derived.Shelf.Strconv.ParseUint10At
import Derived.Shelf.Strconv.ParseInt10At64
import Derived.Shelf.Strconv.ParseInt10At32
import Derived.Shelf.Strconv.ParseInt10At16
import Derived.Shelf.Strconv.ParseInt10At8
import Derived.Shelf.Strconv.ParseInt10All
import Derived.Shelf.Strconv.ParseIntPublic10
import Derived.Shelf.Strconv.ErrVarParseInt
import Derived.Shelf.Strings.Search1
import Derived.Shelf.Strings.Search2
import Derived.Shelf.Strings.Cut
import Derived.Shelf.Strings.Shaped
import Derived.Shelf.Sort.Plain
import Derived.Shelf.GgClosure.StringsIndexFunc
import Derived.Ground.GgwProg
import Derived.Shelf.GgClosure.StringsIndexFuncTop
import Derived.Shelf.GgClosure.StringsRunes
import Derived.Shelf.Slices.In.SortNone
import Derived.Ground.SlgmProg
import Derived.Shelf.SortM.Plain
import Derived.Shelf.SortM.SortNone
import Derived.Test.YtolfghcbbpcciaaGreatDoorProg
import Derived.Test.YtolfghcbbpcciaaGreatDoorGS1
import Derived.Test.YtolfghcbbpcciaaGreatDoorGA1
import Derived.Test.YtolfghcbbpcciaaGreatDoorGE5
import Derived.Test.YtolfghcbbpcciaaGreatDoorGQ1
import Derived.Test.YtolfghcbbpcciaaGreatDoorGE4
import Derived.Test.YtolfghcbbpcciaaGreatDoorGP4
import Derived.Test.YtolfghcbbpcciaaGreatDoorGE1
import Derived.Test.YtolfghcbbpcciaaGreatDoorGE2
import Derived.Test.YtolfghcbbpcciaaGreatDoorGE3
import Derived.Test.YtolfghcbbpcciaaGreatDoorGQ2
set_option linter.unusedSimpArgs false
set_option linter.unusedVariables false
namespace Go.Proofs.YtolfghcbbpcciaaGreatDoor.Av
open Go
set_option maxHeartbeats 8000000
set_option maxRecDepth 100000
theorem wkP {A B:Prop} (h:B) (e:Hid B→A:=by
   intro hB_
   repeat' first
     | refine aT ?_
     | (first|refine aG (by kernel_rfl) ?_|refine ap (by kernel_rfl) ?_|refine aq ?_|refine aZ ?_|refine aO (fun _=>?_)|refine aj ?_|refine aK ?_|refine kk1.out _ _ ?_|refine kk1.out ?_|refine kk2.out _ _ ?_|refine kk2.out ?_|refine kk3.out _ _ ?_|refine kk3.out ?_|refine kk4.out _ _ ?_|refine kk4.out ?_|refine kk5.out _ _ ?_|refine kk5.out ?_|refine kk6.out _ _ ?_|refine kk6.out ?_|refine kk7.out _ _ ?_|refine kk7.out ?_|refine kk8.out _ _ ?_|refine kk8.out ?_|refine aL (kk1.out _ _ ⟨rfl,rfl⟩) (kk1.out _ _ ⟨rfl,rfl⟩) ?_|refine aL (kk1.out ⟨rfl,rfl⟩) (kk1.out ⟨rfl,rfl⟩) ?_|refine aL (kk2.out _ _ ⟨rfl,rfl⟩) (kk2.out _ _ ⟨rfl,rfl⟩) ?_|refine aL (kk2.out ⟨rfl,rfl⟩) (kk2.out ⟨rfl,rfl⟩) ?_|refine aB (kk1.out _ _ ⟨rfl,rfl⟩) ?_|refine aB (kk1.out ⟨rfl,rfl⟩) ?_|refine aB (kk2.out _ _ ⟨rfl,rfl⟩) ?_|refine aB (kk2.out ⟨rfl,rfl⟩) ?_|refine aB (kk3.out _ _ ⟨rfl,rfl⟩) ?_|refine aB (kk3.out ⟨rfl,rfl⟩) ?_|refine aB (kk4.out _ _ ⟨rfl,rfl⟩) ?_|refine aB (kk4.out ⟨rfl,rfl⟩) ?_|refine aB (kk5.out _ _ ⟨rfl,rfl⟩) ?_|refine aB (kk5.out ⟨rfl,rfl⟩) ?_|refine aB (kk6.out _ _ ⟨rfl,rfl⟩) ?_|refine aB (kk6.out ⟨rfl,rfl⟩) ?_|refine aB (kk7.out _ _ ⟨rfl,rfl⟩) ?_|refine aB (kk7.out ⟨rfl,rfl⟩) ?_|refine aB (kk8.out ⟨rfl,rfl⟩) ?_)
       refine sm ?_
     | (first|refine aC (by kernel_rfl) ?_|refine aH ?_|refine aJ ?_|refine aU (ai ?_))
       refine sl ?_
     | exact aP
     | first|apply aQ|apply aD|apply aR|apply aE|apply aS|apply aF
     | refine aw ?_
     | first|refine ar rfl ?_|refine au rfl ?_|refine af rfl ?_ ?_
     | ((first|refine ae (fun _=>?_) (fun _=>?_)|refine ah (fun _=>?_) (fun _=>?_))<;>try refine sm ?_)
     | refine And.intro trivial ?_
     | refine And.intro (by omega) ?_
     | refine aA rfl (fun _=>?_) (fun _=>?_)
   exact hB_.out):A:=e (hid h)
theorem Tz {ts:List Typ} {l:List Atr} (hts:Qg ts) (h:InA ts l) (h1:l.length≤1000000) (h2:∀ a∈l,a.2.length≤1000000):Si l :=
 ⟨h1,fun a ha=>⟨(RI hts h ha).1,h2 a ha,fun v hv=>by
   obtain ⟨ty,_,_,_,hv2,_⟩:=h.2 a ha
   have:=hv2.2 v hv
   unfold bX at this
   split at this
   · cases this
   · omega⟩⟩
end Go.Proofs.YtolfghcbbpcciaaGreatDoor.Av
