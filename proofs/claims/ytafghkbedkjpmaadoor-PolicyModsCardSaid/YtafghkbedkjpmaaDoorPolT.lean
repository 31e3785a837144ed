import Derived.Test.YtafghkbedkjpmaaDoorPolG
import Derived.Test.YtafghkbedkjpmaaDoorPolH
set_option linter.unusedSimpArgs false
set_option linter.unusedVariables false
namespace Go.Proofs.YtafghkbedkjpmaaDoor.Av
open Go
set_option maxHeartbeats 8000000

theorem try_k {pf pw pl pa : Int} {fs : List Int} {cap : Option Nat} {lk ch now : Int} {right : Bool} {L : List Blk} {K : AV → List Blk → Prop} (hn : fs.length ≤ 100000) (h : K (resT (tryR pf pw pl pa fs lk ch now right)) L) :
    ACall Tryd.prog 11 [.agg [.int .i64 pf, .int .i64 pw, .int .i64 pl, .int .i64 pa], .agg [.sl (ints fs) fs.length cap, .int .i64 lk, .int .i64 ch], .int .i64 now, .bool right] L K := by
  by_cases hne : fs.length = 0
  · have hfs : fs = [] := List.eq_nil_of_length_eq_zero hne
    subst hfs
    exact try0_k h
  · exact try1_k hn hne h

end Go.Proofs.YtafghkbedkjpmaaDoor.Av
