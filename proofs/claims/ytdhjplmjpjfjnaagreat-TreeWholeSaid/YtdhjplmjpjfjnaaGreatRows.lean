/-
  No cell of these rows narrows 'for every input' (looked for: loops, veiled, ifaces, maps, wideKeys, modest, calm, conditions, laid).
  DERIVED. THE GIVEN ROWS OF THIS SEAT. 6 by the template 'for every input the law returns true; each argument reads behind the call as it read before'; 0 by the template 'total and deterministic' (their statements: YtdhjplmjpjfjnaaGreatTotals.lean).
  GIVEN WITH THE SEED: the statements are not yours to turn. If you find one false, say at which input.
  Laid BY PROGRAM, IN A SANDBOX (cutbox-rows.mjs): the forced cells as the released guide's own fill.sh prints them over the translation 635e06798c21a911… (all of the seat's roots in one cut). By AI agents, Wed Nov 11 2026. No macro, syntax, notation, axiom, sorry.
-/
import Derived.Test.YtdhjplmjpjfjnaaGreatChecked
import GoSem.Claim
import GoSem.ClaimJoined
import GoSem.ClaimMapViews
import Derived.JoinedTies
import Derived.KernelRfl
namespace Go.Proofs.YtdhjplmjpjfjnaaGreat
/- THE CELL 'sum', in the pinned program and in every row, IS THE sha256 OF THE DUMP (.gsa) THAT YtdhjplmjpjfjnaaGreatProg.lean LOADS. Nothing in Lean hashes anything: it is a label: what it is worth is what the hold of that sum in a sandbox is worth. -/
noncomputable def Tryz.pinned : Pinned := { name := "ytdhjplmjpjfjnaagreat", sum := "635e06798c21a911df65f467db3a794aee45932d543791e59793666ba1cd8065", checked := Tryz.checked }
namespace Rows
def none {H : Type} : Left H := { results := [], args := [] }

/-- 'castellanlaw16.TreeScopes': WHATEVER THE INPUT: true; the input reads as it did. -/
def treeScopesSpec : ChangeSpec := { name := "treeScopes", fn := fun _ => fun
  | [d1, d2, d3] => { results := [.lit (.bool true)], args := [d1, d2, d3] }
  | _ => none }
def treeScopesRow : OpenClaim := { program := "ytdhjplmjpjfjnaagreat", sum := "635e06798c21a911df65f467db3a794aee45932d543791e59793666ba1cd8065", func := "castellan/castellanlaw16.TreeScopes", spec := "treeScopes", inPlace := ["internal/bytealg.IndexByteString", "internal/abi.NoEscape", "internal/bytealg.MakeNoZero"], unfollowed := true, recurses := true, apart := false }
def TreeScopesSaid : Prop := treeScopesRow.holds Tryz.pinned (OpenSpec.ofChange treeScopesSpec)

/-- ITS FALSE NEIGHBOUR: 'it returns false'. Refute it at one input. -/
def treeScopesWrong : ChangeSpec := { name := "treeScopes", fn := fun _ => fun
  | [d1, d2, d3] => { results := [.lit (.bool false)], args := [d1, d2, d3] }
  | _ => none }
def TreeScopesWrongFalsely : Prop := treeScopesRow.holds Tryz.pinned (OpenSpec.ofChange treeScopesWrong)

/-- 'castellanlaw16.TreeFinds': WHATEVER THE INPUT: true; the input reads as it did. -/
def treeFindsSpec : ChangeSpec := { name := "treeFinds", fn := fun _ => fun
  | [d1, d2, d3] => { results := [.lit (.bool true)], args := [d1, d2, d3] }
  | _ => none }
def treeFindsRow : OpenClaim := { program := "ytdhjplmjpjfjnaagreat", sum := "635e06798c21a911df65f467db3a794aee45932d543791e59793666ba1cd8065", func := "castellan/castellanlaw16.TreeFinds", spec := "treeFinds", inPlace := ["internal/bytealg.IndexByteString", "internal/abi.NoEscape", "internal/bytealg.MakeNoZero"], unfollowed := true, recurses := true, apart := false }
def TreeFindsSaid : Prop := treeFindsRow.holds Tryz.pinned (OpenSpec.ofChange treeFindsSpec)

/-- ITS FALSE NEIGHBOUR: 'it returns false'. Refute it at one input. -/
def treeFindsWrong : ChangeSpec := { name := "treeFinds", fn := fun _ => fun
  | [d1, d2, d3] => { results := [.lit (.bool false)], args := [d1, d2, d3] }
  | _ => none }
def TreeFindsWrongFalsely : Prop := treeFindsRow.holds Tryz.pinned (OpenSpec.ofChange treeFindsWrong)

/-- 'castellanlaw16.TreeWhole': WHATEVER THE INPUT: true; the input reads as it did. -/
def treeWholeSpec : ChangeSpec := { name := "treeWhole", fn := fun _ => fun
  | [d1, d2] => { results := [.lit (.bool true)], args := [d1, d2] }
  | _ => none }
def treeWholeRow : OpenClaim := { program := "ytdhjplmjpjfjnaagreat", sum := "635e06798c21a911df65f467db3a794aee45932d543791e59793666ba1cd8065", func := "castellan/castellanlaw16.TreeWhole", spec := "treeWhole", inPlace := ["internal/bytealg.IndexByteString", "internal/abi.NoEscape", "internal/bytealg.MakeNoZero"], unfollowed := true, recurses := true, apart := false }
def TreeWholeSaid : Prop := treeWholeRow.holds Tryz.pinned (OpenSpec.ofChange treeWholeSpec)

/-- ITS FALSE NEIGHBOUR: 'it returns false'. Refute it at one input. -/
def treeWholeWrong : ChangeSpec := { name := "treeWhole", fn := fun _ => fun
  | [d1, d2] => { results := [.lit (.bool false)], args := [d1, d2] }
  | _ => none }
def TreeWholeWrongFalsely : Prop := treeWholeRow.holds Tryz.pinned (OpenSpec.ofChange treeWholeWrong)

/-- 'castellanlaw16.TreePlays': WHATEVER THE INPUT: true; the input reads as it did. -/
def treePlaysSpec : ChangeSpec := { name := "treePlays", fn := fun _ => fun
  | [d1, d2] => { results := [.lit (.bool true)], args := [d1, d2] }
  | _ => none }
def treePlaysRow : OpenClaim := { program := "ytdhjplmjpjfjnaagreat", sum := "635e06798c21a911df65f467db3a794aee45932d543791e59793666ba1cd8065", func := "castellan/castellanlaw16.TreePlays", spec := "treePlays", inPlace := ["internal/bytealg.IndexByteString", "internal/abi.NoEscape", "internal/bytealg.MakeNoZero"], unfollowed := true, recurses := true, apart := false }
def TreePlaysSaid : Prop := treePlaysRow.holds Tryz.pinned (OpenSpec.ofChange treePlaysSpec)

/-- ITS FALSE NEIGHBOUR: 'it returns false'. Refute it at one input. -/
def treePlaysWrong : ChangeSpec := { name := "treePlays", fn := fun _ => fun
  | [d1, d2] => { results := [.lit (.bool false)], args := [d1, d2] }
  | _ => none }
def TreePlaysWrongFalsely : Prop := treePlaysRow.holds Tryz.pinned (OpenSpec.ofChange treePlaysWrong)

/-- 'castellanlaw16.TreeOwn': WHATEVER THE INPUT: true; the input reads as it did. -/
def treeOwnSpec : ChangeSpec := { name := "treeOwn", fn := fun _ => fun
  | [d1, d2] => { results := [.lit (.bool true)], args := [d1, d2] }
  | _ => none }
def treeOwnRow : OpenClaim := { program := "ytdhjplmjpjfjnaagreat", sum := "635e06798c21a911df65f467db3a794aee45932d543791e59793666ba1cd8065", func := "castellan/castellanlaw16.TreeOwn", spec := "treeOwn", inPlace := ["internal/bytealg.IndexByteString", "internal/abi.NoEscape", "internal/bytealg.MakeNoZero"], unfollowed := true, recurses := true, apart := false }
def TreeOwnSaid : Prop := treeOwnRow.holds Tryz.pinned (OpenSpec.ofChange treeOwnSpec)

/-- ITS FALSE NEIGHBOUR: 'it returns false'. Refute it at one input. -/
def treeOwnWrong : ChangeSpec := { name := "treeOwn", fn := fun _ => fun
  | [d1, d2] => { results := [.lit (.bool false)], args := [d1, d2] }
  | _ => none }
def TreeOwnWrongFalsely : Prop := treeOwnRow.holds Tryz.pinned (OpenSpec.ofChange treeOwnWrong)

/-- 'castellanlaw17.RecordReplays': WHATEVER THE INPUT: true; the input reads as it did. -/
def recordReplaysSpec : ChangeSpec := { name := "recordReplays", fn := fun _ => fun
  | [d1, d2, d3] => { results := [.lit (.bool true)], args := [d1, d2, d3] }
  | _ => none }
def recordReplaysRow : OpenClaim := { program := "ytdhjplmjpjfjnaagreat", sum := "635e06798c21a911df65f467db3a794aee45932d543791e59793666ba1cd8065", func := "castellan/castellanlaw17.RecordReplays", spec := "recordReplays", inPlace := ["internal/bytealg.IndexByteString", "internal/abi.NoEscape", "internal/bytealg.MakeNoZero", "internal/bytealg.IndexString"], unfollowed := true, recurses := true, named := ["internal/bytealg.MaxLen"], apart := false }
def RecordReplaysSaid : Prop := recordReplaysRow.holds Tryz.pinned (OpenSpec.ofChange recordReplaysSpec)

/-- ITS FALSE NEIGHBOUR: 'it returns false'. Refute it at one input. -/
def recordReplaysWrong : ChangeSpec := { name := "recordReplays", fn := fun _ => fun
  | [d1, d2, d3] => { results := [.lit (.bool false)], args := [d1, d2, d3] }
  | _ => none }
def RecordReplaysWrongFalsely : Prop := recordReplaysRow.holds Tryz.pinned (OpenSpec.ofChange recordReplaysWrong)

/- THE SECOND FORM. 'bulk': how many values and letters a reading holds, each counted each time it is reached (what is shared counts as often as it is met; a slice's spare places count too). A statement '..UptoSaid' is the law's where the arguments, and the package variables that the reading takes, are together of bulk at most 1048576: NARROWER than '..Said'. Prove '..Said' where nothing that the law and all that it calls make is longer than what came in: it says more and counts as full. Else prove '..UptoSaid'. A law counts once. -/
mutual
def uptoBulk {H : Type} : DataW H → Nat
  | .lit (.string bytes) => bytes.length + 1
  | .lit _ => 1
  | .nil => 1
  | .ptr d => uptoBulk d + 1
  | .slice elems spare => uptoBulkAll elems + uptoBulkAll spare + 1
  | .agg parts => uptoBulkAll parts + 1
  | .iface _ d => uptoBulk d + 1
  | .map entries => uptoBulkEntries entries + 1
  | .held _ => 1
def uptoBulkAll {H : Type} : List (DataW H) → Nat
  | [] => 0
  | d :: r => uptoBulk d + uptoBulkAll r
def uptoBulkEntries {H : Type} : List (Lit × DataW H) → Nat
  | [] => 0
  | x :: r => uptoBulkEntry x + uptoBulkEntries r
def uptoBulkEntry {H : Type} : Lit × DataW H → Nat
  | (.string bytes, d) => bytes.length + uptoBulk d + 1
  | (_, d) => uptoBulk d + 1
 end
def uptoSmall : (H : Type) → List (DataW H) → Bool := fun _ ds => decide (uptoBulkAll ds ≤ 1048576)
def OpenSpec.upto (s : _root_.Go.ChangeSpec) : _root_.Go.OpenSpec := { _root_.Go.OpenSpec.ofChange s with cond := some uptoSmall }

/-- 'castellanlaw16.TreeScopes', WHERE WHAT IT READS IS OF BULK AT MOST 1048576: true; the input reads as it did. -/
def treeScopesUptoRow : OpenClaim := { program := "ytdhjplmjpjfjnaagreat", sum := "635e06798c21a911df65f467db3a794aee45932d543791e59793666ba1cd8065", func := "castellan/castellanlaw16.TreeScopes", spec := "treeScopes", inPlace := ["internal/bytealg.IndexByteString", "internal/abi.NoEscape", "internal/bytealg.MakeNoZero"], unfollowed := true, recurses := true, apart := false, narrowed := true }
def TreeScopesUptoSaid : Prop := treeScopesUptoRow.holds Tryz.pinned (OpenSpec.upto treeScopesSpec)

/-- 'castellanlaw16.TreeFinds', WHERE WHAT IT READS IS OF BULK AT MOST 1048576: true; the input reads as it did. -/
def treeFindsUptoRow : OpenClaim := { program := "ytdhjplmjpjfjnaagreat", sum := "635e06798c21a911df65f467db3a794aee45932d543791e59793666ba1cd8065", func := "castellan/castellanlaw16.TreeFinds", spec := "treeFinds", inPlace := ["internal/bytealg.IndexByteString", "internal/abi.NoEscape", "internal/bytealg.MakeNoZero"], unfollowed := true, recurses := true, apart := false, narrowed := true }
def TreeFindsUptoSaid : Prop := treeFindsUptoRow.holds Tryz.pinned (OpenSpec.upto treeFindsSpec)

/-- 'castellanlaw16.TreeWhole', WHERE WHAT IT READS IS OF BULK AT MOST 1048576: true; the input reads as it did. -/
def treeWholeUptoRow : OpenClaim := { program := "ytdhjplmjpjfjnaagreat", sum := "635e06798c21a911df65f467db3a794aee45932d543791e59793666ba1cd8065", func := "castellan/castellanlaw16.TreeWhole", spec := "treeWhole", inPlace := ["internal/bytealg.IndexByteString", "internal/abi.NoEscape", "internal/bytealg.MakeNoZero"], unfollowed := true, recurses := true, apart := false, narrowed := true }
def TreeWholeUptoSaid : Prop := treeWholeUptoRow.holds Tryz.pinned (OpenSpec.upto treeWholeSpec)

/-- 'castellanlaw16.TreePlays', WHERE WHAT IT READS IS OF BULK AT MOST 1048576: true; the input reads as it did. -/
def treePlaysUptoRow : OpenClaim := { program := "ytdhjplmjpjfjnaagreat", sum := "635e06798c21a911df65f467db3a794aee45932d543791e59793666ba1cd8065", func := "castellan/castellanlaw16.TreePlays", spec := "treePlays", inPlace := ["internal/bytealg.IndexByteString", "internal/abi.NoEscape", "internal/bytealg.MakeNoZero"], unfollowed := true, recurses := true, apart := false, narrowed := true }
def TreePlaysUptoSaid : Prop := treePlaysUptoRow.holds Tryz.pinned (OpenSpec.upto treePlaysSpec)

/-- 'castellanlaw16.TreeOwn', WHERE WHAT IT READS IS OF BULK AT MOST 1048576: true; the input reads as it did. -/
def treeOwnUptoRow : OpenClaim := { program := "ytdhjplmjpjfjnaagreat", sum := "635e06798c21a911df65f467db3a794aee45932d543791e59793666ba1cd8065", func := "castellan/castellanlaw16.TreeOwn", spec := "treeOwn", inPlace := ["internal/bytealg.IndexByteString", "internal/abi.NoEscape", "internal/bytealg.MakeNoZero"], unfollowed := true, recurses := true, apart := false, narrowed := true }
def TreeOwnUptoSaid : Prop := treeOwnUptoRow.holds Tryz.pinned (OpenSpec.upto treeOwnSpec)

/-- 'castellanlaw17.RecordReplays', WHERE WHAT IT READS IS OF BULK AT MOST 1048576: true; the input reads as it did. -/
def recordReplaysUptoRow : OpenClaim := { program := "ytdhjplmjpjfjnaagreat", sum := "635e06798c21a911df65f467db3a794aee45932d543791e59793666ba1cd8065", func := "castellan/castellanlaw17.RecordReplays", spec := "recordReplays", inPlace := ["internal/bytealg.IndexByteString", "internal/abi.NoEscape", "internal/bytealg.MakeNoZero", "internal/bytealg.IndexString"], unfollowed := true, recurses := true, named := ["internal/bytealg.MaxLen"], apart := false, narrowed := true }
def RecordReplaysUptoSaid : Prop := recordReplaysUptoRow.holds Tryz.pinned (OpenSpec.upto recordReplaysSpec)

end Rows
end Go.Proofs.YtdhjplmjpjfjnaaGreat
