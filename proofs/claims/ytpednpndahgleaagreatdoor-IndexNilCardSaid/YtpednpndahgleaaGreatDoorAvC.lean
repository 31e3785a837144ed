/- The operations, lowered, and what they come to over abstract values. No program in sight. -/
import Derived.Test.YtpednpndahgleaaGreatDoorAvB
set_option linter.unusedSimpArgs false
set_option linter.unusedVariables false
namespace Go.Proofs.YtpednpndahgleaaGreatDoor.Av
open Go

inductive EqK where
  | bool | ptr | slice | map | func | iface
  deriving DecidableEq, Inhabited

/-- The kinds of keys that are told apart here. -/
inductive PKey where
  | int | str | bool
  deriving DecidableEq, Inhabited
inductive KeyK where
  | int | str | bool
  | st (ks : List PKey)
  deriving DecidableEq, Inhabited

inductive LOp where
  | mv (x : Opd)
  | pick (c a b : Opd)
  | alloc (z : List AV)
  | box (x : Opd)
  | build (z : List AV) (ps : List (Nat × Nat × Opd))
  | bslice (own : Bool) (sz n : Nat) (z : List AV) (ps : List (Nat × Nat × Opd))
  | load (agg : Bool) (sz : Nat) (a : Opd)
  | store (sz : Nat) (a x : Opd)
  | nilchk (x : Opd)
  | bin (op : BinOp) (x y : Opd)
  | eqk (neg : Bool) (k : EqK) (x y : Opd)
  | slnil (neg : Bool) (x : Opd)
  | un (op : UnOp) (x : Opd)
  | conv (k : IntKind) (x : Opd)
  | sconv (x : Opd)
  | b2s (x : Opd)
  | s2b (x : Opd)
  | s2bO (x : Opd)
  | rangeS (x : Opd)
  | nextS (x : Opd)
  | mkif (t : TypeId) (x : Opd)
  | mkfn (f : FuncId) (caps : List Opd)
  | mkslice (sz bytes : Nat) (z : List AV) (l c : Opd)
  | slS (x : Opd) (lo hi : Option Opd)
  | slV (sz : Nat) (x : Opd) (lo hi mx : Option Opd)
  | slA (n sz : Nat) (x : Opd) (lo hi : Option Opd)
  | faddr (off : Nat) (x : Opd)
  | field (agg : Bool) (off sz : Nat) (x : Opd)
  | iaddr (sz : Nat) (x i : Opd)
  | iaddrA (n sz : Nat) (x i : Opd)
  | idxS (x i : Opd)
  | extract (x : Opd) (i : Nat)
  | len (str : Bool) (x : Opd)
  | cap (x : Opd)
  | bad
  | appz (sz bytes : Nat) (z : List AV) (a n : Opd)
  | app (own : Nat) (sz bytes : Nat) (z : List AV) (a b : Opd)
  | copy (sz : Nat) (a b : Opd)
  | clear (sz : Nat) (z : List AV) (x : Opd)
  | minmax (mx : Bool) (xs : List Opd)
  | mkmap
  | mget (kd : KeyK) (ok : Bool) (z : AV) (m k : Opd)
  | mset (kd : KeyK) (m k v : Opd)
  | mdel (kd : KeyK) (m k : Opd)
  | mlen (m : Opd)
  | mrange (x : Opd)
  | mnext (x : Opd)
  | mentry (x : Opd)
  | call (f : FuncId) (xs : List Opd)
  | callv (f : Opd) (xs : List Opd)
  deriving Inhabited

def lowXs (l : List Operand) : Option (List Opd) := l.mapM lowX
def lowXo : Option Operand → Option (Option Opd)
  | none => some none
  | some x => (lowX x).map some

def szOf (P : Program) (t : TypeId) : Option Nat := (P.info? t).map (·.size)
def byOf (P : Program) (t : TypeId) : Option Nat := (P.info? t).map (·.bytes)
def zOf (P : Program) (t : TypeId) : Option (List AV) := ((P.info? t).bind (·.zero)).bind lowZ
def isAggT (P : Program) (t : TypeId) : Option Bool :=
  match P.underlying t with
  | some (.struct _) | some (.array _ _) => some true
  | some _ => some false
  | none => none

def replC (z : List AV) : Nat → List AV
  | 0 => []
  | n + 1 => z ++ replC z n

/-- A part's place: its offset and its size. -/
def partAtT (P : Program) (d : TypeDesc) (i : Nat) : Option (Nat × Nat) :=
  match d with
  | .struct fs => match fs.toList[i]? with
    | some f => (szOf P f.type).map fun s => (f.offset, s)
    | none => none
  | .array _ e | .slice e => (szOf P e).map fun s => (i * s, s)
  | _ => none
def lowParts (P : Program) (d : TypeDesc) : List (Nat × Operand) → Option (List (Nat × Nat × Opd))
  | [] => some []
  | (i, x) :: l => match partAtT P d i, lowX x, lowParts P d l with
    | some (o, s), some y, some m => some ((o, s, y) :: m)
    | _, _, _ => none

def lowConv (P : Program) (own : Nat) (s d : TypeId) (x : Opd) : Option LOp :=
  match P.underlying s, P.underlying d with
  | some (.int _), some (.int k) => some (.conv k x)
  | some .string, some .string => some (.sconv x)
  | some (.slice e), some .string => match P.underlying e with
    | some (.int .u8) => some (.b2s x)
    | _ => none
  | some .string, some (.slice e) => match P.underlying e with
    | some (.int .u8) => if own = 2 then some (.s2bO x) else some (.s2b x)
    | _ => none
  | _, _ => none

def isConstX : Operand → Bool
  | .const _ => true
  | _ => false

def isNilX : Operand → Bool
  | .const (.slice none 0 0) => true
  | _ => false

def lowBin (P : Program) (op : BinOp) (t : TypeId) (x y : Operand) : Option LOp :=
  match lowX x, lowX y with
  | some x', some y' => match P.underlying t with
    | some (.int _) | some .string => some (.bin op x' y')
    | some d => match op, d with
      | .eql, .bool => some (.eqk false .bool x' y')
      | .neq, .bool => some (.eqk true .bool x' y')
      | .eql, .pointer _ => some (.eqk false .ptr x' y')
      | .neq, .pointer _ => some (.eqk true .ptr x' y')
      | .eql, .slice _ => if isNilX y = true then some (.slnil false x') else none
      | .neq, .slice _ => if isNilX y = true then some (.slnil true x') else none
      | .eql, .map _ _ => some (.eqk false .map x' y')
      | .neq, .map _ _ => some (.eqk true .map x' y')
      | .eql, .func _ _ _ => some (.eqk false .func x' y')
      | .neq, .func _ _ _ => some (.eqk true .func x' y')
      | .eql, .interface _ => if isConstX x || isConstX y then some (.eqk false .iface x' y') else none
      | .neq, .interface _ => if isConstX x || isConstX y then some (.eqk true .iface x' y') else none
      | _, _ => none
    | none => none
  | _, _ => none

def lowP (P : Program) (t : TypeId) : Option PKey :=
  match P.underlying t with
  | some (.int _) => some .int
  | some .string => some .str
  | some .bool => some .bool
  | _ => none
/-- Fields of one cell each, one behind the other. -/
def lowFs (P : Program) : Nat → List Field → Option (List PKey)
  | _, [] => some []
  | i, f :: fs => if f.offset = i ∧ f.name ≠ "_" then match lowP P f.type, lowFs P (i + 1) fs with
    | some k, some ks => some (k :: ks)
    | _, _ => none
    else none
def lowKey (P : Program) (kt : TypeId) : Option KeyK :=
  match P.underlying kt with
  | some (.int _) => some .int
  | some .string => some .str
  | some .bool => some .bool
  | some (.struct fs) => if P.stoodInHeld kt = false then (lowFs P 0 fs.toList).map .st else none
  | _ => none
def pFit : PKey → AV → Bool
  | .int, .int _ _ => true
  | .str, .str _ => true
  | .bool, .bool _ => true
  | _, _ => false
def pFitL : List PKey → List AV → Bool
  | [], [] => true
  | k :: ks, a :: l => pFit k a && pFitL ks l
  | _, _ => false
def keyFit : KeyK → AV → Bool
  | .int, .int _ _ => true
  | .str, .str _ => true
  | .bool, .bool _ => true
  | .st ks, .agg l => pFitL ks l
  | _, _ => false
def keyq1 : AV → AV → Option Bool
  | .int k a, .int j b => if k = j then some (decide (a = b)) else none
  | .str a, .str b => some (decide (a = b))
  | .bool a, .bool b => some (decide (a = b))
  | _, _ => none
def keyqL : List AV → List AV → Option Bool
  | [], [] => some true
  | a :: l, b :: m => match keyq1 a b with
    | some true => keyqL l m
    | r => r
  | _, _ => none
/-- Are two keys the same? (None: it isn't told.) -/
def keyq : AV → AV → Option Bool
  | .int k a, .int j b => if k = j then some (decide (a = b)) else none
  | .str a, .str b => some (decide (a = b))
  | .bool a, .bool b => some (decide (a = b))
  | .agg l, .agg m => keyqL l m
  | _, _ => none
/-- Where a key stands in a map, and its value. -/
def mfind (k : AV) : List (AV × AV × Nat) → Nat → Option (Option (Nat × AV))
  | [], _ => some none
  | (q, x, _) :: l, i => match keyq k q with
    | some true => some (some (i, x))
    | some false => mfind k l (i + 1)
    | none => none
def mput (k v : AV) : List (AV × AV × Nat) → Nat → List (AV × AV × Nat)
  | [], _ => []
  | (_, _, b) :: l, 0 => (k, v, b) :: l
  | e :: l, j + 1 => e :: mput k v l j
/-- The next entry of a walk, where Go leaves no choice. -/
def mstep (es : List (AV × AV × Nat)) (since : Nat) (seen : List Nat) (last : Nat) : Option (Option (AV × AV × Nat)) :=
  if (!seen.isEmpty && !es.isEmpty && es.all fun e => decide (last ≤ e.2.2)) = true then none else
  match (es.filter fun e => !seen.contains e.2.2).filter (fun e => decide (e.2.2 < since)), (es.filter fun e => !seen.contains e.2.2).filter (fun e => decide (since ≤ e.2.2)) with
  | [], [] => some none
  | [e], [] => some (some e)
  | _, _ => none

def nextL (L : List Blk) (i j since : Nat) (seen : List Nat) (ck : Nat) : Option (AV × AV × Nat) → List Blk
  | none => L
  | some e => L.set i (.miter (some j) since (seen ++ [e.2.2]) ck)
def nextV : Option (AV × AV × Nat) → AV
  | none => .tup [.bool false]
  | some e => .tup [.bool true, e.1, e.2.1]

/-- The entry at which a walk stands. -/
def mat (es : List (AV × AV × Nat)) (ck : Nat) (seen : List Nat) (stepped : Nat) : Option (AV × AV × Nat) :=
  match seen.getLast? with
  | some b => if ck = stepped then es.find? (fun e => Nat.beq e.2.2 b) else none
  | none => none

/-- A type's zero value, as one. -/
def zvOf (P : Program) (t : TypeId) : Option AV := ((P.info? t).bind (·.zero)).bind lowC

def lowBuiltin (P : Program) (own : Nat) (b : Builtin) (ts : List TypeId) (xs : List Opd) : Option LOp :=
  match b, ts, xs with
  | .len, [t], [x] => match P.underlying t with
    | some .string => some (.len true x)
    | some (.slice _) => some (.len false x)
    | some (.array n _) => some (.mv (.av (.int .i64 n)))
    | some (.map _ _) => some (.mlen x)
    | _ => none
  | .cap, [t], [x] => match P.underlying t with
    | some (.slice _) => some (.cap x)
    | some (.array n _) => some (.mv (.av (.int .i64 n)))
    | _ => none
  | .append, [t, t'], [x, y] => match P.underlying t, P.underlying t' with
    | some (.slice e), some (.slice _) | some (.slice e), some .string => match szOf P e, byOf P e, zOf P e with
      | some s, some by', some z => if z.length = s then some (.app own s by' z x y) else none
      | _, _, _ => none
    | some (.slice e), some (.int _) => match szOf P e, byOf P e, zOf P e with
      | some s, some by', some z => if z.length = s then some (.appz s by' z x y) else none
      | _, _, _ => none
    | _, _ => none
  | .copy, [t, _], [x, y] => match P.underlying t with
    | some (.slice e) => (szOf P e).map fun s => .copy s x y
    | _ => none
  | .clear, [t], [x] => match P.underlying t with
    | some (.slice e) => match szOf P e, zOf P e with
      | some s, some z => if z.length = s then some (.clear s z x) else none
      | _, _ => none
    | _ => none
  | .delete, [t, _], [m, k] => match P.underlying t with
    | some (.map kt _) => (lowKey P kt).map fun kd => .mdel kd m k
    | _ => none
  | .max, _, [x, y] => some (.minmax true [x, y])
  | .min, _, [x, y] => some (.minmax false [x, y])
  | _, _, _ => none

def lowOp (P : Program) (own : Nat) (op : Op) : Option LOp :=
  match op with
  | .move x | .assign x => (lowX x).map .mv
  | .pick c a b => match lowX c, lowX a, lowX b with
    | some c, some a, some b => some (.pick c a b)
    | _, _, _ => none
  | .alloc t => (zOf P t).map .alloc
  | .box _ x => (lowX x).map .box
  | .build t ps => match P.underlying t, zOf P t with
    | some d, some z => match d with
      | .struct fs => if fs.toList.all (fun f => (szOf P f.type).isSome) = true then (lowParts P d ps.toList).map (.build z) else none
      | .array _ e => if (szOf P e).isSome = true then (lowParts P d ps.toList).map (.build z) else none
      | _ => none
    | _, _ => none
  | .buildSlice t n ps => match P.underlying t with
    | some (.slice e) => match szOf P e, zOf P e, lowParts P (.slice e) ps.toList with
      | some s, some z, some m => if z.length = s ∧ n * s ≤ 2 ^ 24 then some (.bslice (own == 2) s n (replC z n) m) else none
      | _, _, _ => none
    | _ => none
  | .load t x => match isAggT P t, szOf P t, lowX x with
    | some g, some s, some y => some (.load g s y)
    | _, _, _ => none
  | .store t a x => match szOf P t, lowX a, lowX x with
    | some s, some a, some x => some (.store s a x)
    | _, _, _ => none
  | .nilCheck x => (lowX x).map .nilchk
  | .binOp op t x y _ => lowBin P op t x y
  | .unOp op _ x => (lowX x).map (.un op)
  | .convert s d x => (lowX x).bind (lowConv P own s d)
  | .makeInterface t x => match P.underlying t with
    | some (.interface _) | none => none
    | some _ => (lowX x).map (.mkif t)
  | .makeFunc fn first caps => match fn with
    | .func f => if first.toList.isEmpty = true then (lowXs caps.toList).map (.mkfn f) else none
    | _ => none
  | .makeSlice t l c => match P.underlying t with
    | some (.slice e) => match szOf P e, byOf P e, zOf P e, lowX l, lowX c with
      | some s, some b, some z, some l, some c => if z.length = s ∧ 0 < s then some (.mkslice s b z l c) else none
      | _, _, _, _, _ => none
    | _ => none
  | .slice t x lo hi mx => match P.underlying t, lowX x, lowXo lo, lowXo hi, lowXo mx with
    | some .string, some x, some lo, some hi, some none => some (.slS x lo hi)
    | some (.slice e), some x, some lo, some hi, some mx => (szOf P e).map fun s => .slV s x lo hi mx
    | some (.array n e), some x, some lo, some hi, some none => (szOf P e).map fun s => .slA n s x lo hi
    | _, _, _, _, _ => none
  | .fieldAddr t x f => match P.underlying t, lowX x with
    | some (.struct fs), some x => match fs.toList[f]? with
      | some fd => if (szOf P fd.type).getD 0 = 0 then none else some (.faddr fd.offset x)
      | none => none
    | _, _ => none
  | .field t x f => match P.underlying t, lowX x with
    | some (.struct fs), some x => match fs.toList[f]? with
      | some fd => match isAggT P fd.type, szOf P fd.type with
        | some g, some s => some (.field g fd.offset s x)
        | _, _ => none
      | none => none
    | _, _ => none
  | .indexAddr t x i => match P.underlying t, lowX x, lowX i with
    | some (.slice e), some x, some i => (szOf P e).map fun s => .iaddr s x i
    | some (.array n e), some x, some i => (szOf P e).map fun s => .iaddrA n s x i
    | _, _, _ => none
  | .index t x i => match P.underlying t, lowX x, lowX i with
    | some .string, some x, some i => some (.idxS x i)
    | _, _, _ => none
  | .extract x i => (lowX x).map (.extract · i)
  | .makeMap t none => match P.underlying t with
    | some (.map _ _) => some .mkmap
    | _ => none
  | .lookup t m k ok => match P.underlying t, lowX m, lowX k with
    | some (.map kt et), some m, some k => match lowKey P kt, zvOf P et with
      | some kd, some z => some (.mget kd ok z m k)
      | _, _ => none
    | _, _, _ => none
  | .mapUpdate t m k v => match P.underlying t, lowX m, lowX k, lowX v with
    | some (.map kt _), some m, some k, some v => (lowKey P kt).map fun kd => .mset kd m k v
    | _, _, _, _ => none
  | .range t x => match P.underlying t with
    | some .string => (lowX x).map .rangeS
    | some (.map _ _) => (lowX x).map .mrange
    | _ => none
  | .next x isS => if isS = true then (lowX x).map .nextS else (lowX x).map .mnext
  | .entry x => (lowX x).map .mentry
  | .call c => match lowXs c.args.toList with
    | some xs => match c.callee with
      | .value (.func f) => some (.call f xs)
      | .value x => (lowX x).map (.callv · xs)
      | .builtin b => lowBuiltin P own b c.argTypes.toList xs
      | _ => none
    | none => none
  | _ => none

/-! ### What an operation comes to: a condition, its value, the call's own blocks behind it -/

def evXs (T : Tm) : List Opd → Option (List AV)
  | [] => some []
  | x :: l => match evX T x, evXs T l with
    | some a, some m => some (a :: m)
    | _, _ => none

def fillA (T : Tm) (z : List AV) : List (Nat × Nat × Opd) → Option (List AV)
  | [] => some z
  | (o, s, x) :: l => match (evX T x).bind AV.cells? with
    | some vals => if vals.length = s ∧ o + s ≤ z.length then fillA T (splice z o vals) l else none
    | none => none

def binI (op : BinOp) (k : IntKind) (a b : Int) : Option (Prop × AV) :=
  match op with
  | .add => some (True, .int k (k.wrap (a + b)))
  | .sub => some (True, .int k (k.wrap (a - b)))
  | .mul => some (True, .int k (k.wrap (a * b)))
  | .quo => some (b ≠ 0, .int k (k.wrap (a.tdiv b)))
  | .rem => some (b ≠ 0, .int k (a.tmod b))
  | .and => some (True, .int k (k.wrap (BitVec.ofInt k.bits a &&& BitVec.ofInt k.bits b).toNat))
  | .or => some (True, .int k (k.wrap (BitVec.ofInt k.bits a ||| BitVec.ofInt k.bits b).toNat))
  | .xor => some (True, .int k (k.wrap (BitVec.ofInt k.bits a ^^^ BitVec.ofInt k.bits b).toNat))
  | .andNot => some (True, .int k (k.wrap (BitVec.ofInt k.bits a &&& ~~~BitVec.ofInt k.bits b).toNat))
  | .eql => some (True, .bool (decide (a = b)))
  | .neq => some (True, .bool (!decide (a = b)))
  | .lss => some (True, .bool (decide (a < b)))
  | .leq => some (True, .bool (decide (a ≤ b)))
  | .gtr => some (True, .bool (decide (b < a)))
  | .geq => some (True, .bool (decide (b ≤ a)))
  | _ => none

def binS (op : BinOp) (x y : List UInt8) : Option (Prop × AV) :=
  match op with
  | .add => some (((x.length + y.length : Nat) : Int) ≤ 9223372036854775807, .str (x ++ y))
  | .eql => some (True, .bool (decide (x = y)))
  | .neq => some (True, .bool (!decide (x = y)))
  | .lss => some (True, .bool (Op.bytesLess x y))
  | .leq => some (True, .bool (Op.bytesLess x y || decide (x = y)))
  | .gtr => some (True, .bool (!(Op.bytesLess x y || decide (x = y))))
  | .geq => some (True, .bool (!Op.bytesLess x y))
  | _ => none

def bin (op : BinOp) (x y : AV) : Option (Prop × AV) :=
  match op, x, y with
  | .shl, .int k a, .int _ b => some (0 ≤ b, .int k (k.wrap (a * 2 ^ (min b.toNat k.bits))))
  | .shr, .int k a, .int _ b => some (0 ≤ b, .int k (a.fdiv (2 ^ (min b.toNat k.bits))))
  | op, .int k a, .int k' b => if k = k' then binI op k a b else none
  | op, .str a, .str b => binS op a b
  | _, _, _ => none

def eqA (k : EqK) (x y : AV) : Option Bool :=
  match k, x, y with
  | .bool, .bool a, .bool b => some (decide (a = b))
  | .ptr, .nilptr, .nilptr => some true
  | .ptr, .nilptr, .ptr _ _ | .ptr, .nilptr, .iptr _ _ | .ptr, .ptr _ _, .nilptr | .ptr, .iptr _ _, .nilptr => some false
  | .slice, .nilsl, .nilsl => some true
  | .slice, .nilsl, .lsl _ _ _ _ _ | .slice, .lsl _ _ _ _ _, .nilsl => some false
  | .map, .nilmap, .nilmap => some true
  | .map, .nilmap, .lmap _ | .map, .lmap _, .nilmap => some false
  | .func, .nilfunc, .nilfunc => some true
  | .func, .nilfunc, .func _ _ | .func, .func _ _, .nilfunc => some false
  | .iface, .nilif, .nilif => some true
  | .iface, .nilif, .iface _ _ | .iface, .iface _ _, .nilif => some false
  | _, _, _ => none

def un (op : UnOp) (x : AV) : Option AV :=
  match op, x with
  | .neg, .int k n => some (.int k (k.wrap (0 - n)))
  | .not, .bool b => some (.bool (!b))
  | _, _ => none

def u8of : AV → UInt8
  | .int .u8 n => UInt8.ofNat n.toNat
  | _ => 0
def isU8 : AV → Bool
  | .int .u8 _ => true
  | _ => false
def u8s (l : List UInt8) : List AV := l.map fun b => .int .u8 b.toNat

/-- The cells of a slice or a string, and how many elements. -/
def elems (L : List Blk) (sz : Nat) : AV → Option (Prop × List AV × Nat)
  | .nilsl => some (True, [], 0)
  | .sl l n _ => some (l.length = n * sz, l, n)
  | .gsl l n _ s => some (s = sz, l, n)
  | .lsl i off n _ _ => match L[i]? with
    | some (.cells l) => some (off + n * sz ≤ l.length, (l.drop off).take (n * sz), n)
    | _ => none
  | .str s => if sz = 1 then some (True, u8s s, s.length) else none
  | _ => none

def bnd (T : Tm) : Option Opd → Option (Option Int)
  | none => some none
  | some x => match evX T x with
    | some (.int _ n) => some (some n)
    | _ => none

def appOwn (L : List Blk) (old new : List AV) (n sz : Nat) (dead : Option Nat) : AV × List Blk :=
  (.lsl L.length 0 n none sz, (match dead with | some i => L.set i .dead | none => L) ++ [.cells (old ++ new)])

def app (own : Nat) (sz bytes : Nat) (L : List Blk) (a b : AV) : Option (Prop × AV × List Blk) :=
  match elems L sz b with
  | none => none
  | some (c, new, n) => match a with
    | .sl l m (some k) =>
      if own = 1 then some (c ∧ m = k ∧ l.length = m * sz ∧ (m + n) * bytes ≤ 140737488355328 ∧ m + n ≤ 140737488355328, .gsl (l ++ AV.frzL new) (m + n) L.length sz, L ++ [.spare (m + n) sz])
      else if own = 2 then (if n = 0 then some (c ∧ m ≤ k, .sl l m (some k), L) else some (c ∧ m = k ∧ l.length = m * sz ∧ (m + n) * bytes ≤ 140737488355328 ∧ m + n ≤ 140737488355328, appOwn L l new (m + n) sz none))
      else some (c ∧ m = k ∧ l.length = m * sz ∧ (m + n) * bytes ≤ 140737488355328 ∧ m + n ≤ 140737488355328, .sl (l ++ AV.frzL new) (m + n) none, L)
    | .gsl l m i s => match L[i]? with
      | some (.spare m' s') => some (c ∧ new.all AV.one = true ∧ s = sz ∧ m' = m ∧ s' = sz ∧ (m + n) * bytes ≤ 140737488355328 ∧ m + n ≤ 140737488355328, .gsl (l ++ AV.frzL new) (m + n) i sz, L.set i (.spare (m + n) sz))
      | _ => none
    | .lsl i off m _ s => match L[i]? with
      | some (.cells l) =>
        if s = sz then some (c ∧ new.all AV.one = true ∧ off + m * sz ≤ l.length ∧ (m + n) * bytes ≤ 140737488355328 ∧ m + n ≤ 140737488355328, appOwn L ((l.drop off).take (m * sz)) new (m + n) sz (some i)) else none
      | _ => none
    | _ => none

/-- The rune that stands at a place of a text, and how many bytes it takes. -/
def decU (s : List UInt8) (p : Nat) : Nat × Nat := Utf8.decode ⟨⟨s⟩⟩ p

def evalOp (T : Tm) (L : List Blk) : LOp → Option (Prop × AV × List Blk)
  | .mv x => (evX T x).map fun v => (True, v, L)
  | .pick c a b => match evX T c with
    | some (.bool true) => (evX T a).map fun v => (True, v, L)
    | some (.bool false) => (evX T b).map fun v => (True, v, L)
    | _ => none
  | .alloc z => some (True, .ptr L.length 0, L ++ [.cells z])
  | .box x => match (evX T x).bind AV.cells? with
    | some l => some (True, .ptr L.length 0, L ++ [.cells l])
    | none => none
  | .build z ps => (fillA T z ps).map fun l => (True, .agg l, L)
  | .bslice own sz n z ps => match fillA T z ps with
    | some l => if own then some (True, .lsl L.length 0 n (some n) sz, L ++ [.cells l]) else some (True, .sl l n (some n), L)
    | none => none
  | .load g sz x => match (evD T x).bind (row L) with
    | some (l, off) => if g then some (off + sz ≤ l.length, .agg ((l.drop off).take sz), L) else some (off < l.length, l.getD off .undef, L)
    | none => none
  | .store sz a x => match evX T a, (evX T x).bind AV.cells? with
    | some (.ptr i off), some vals => match L[i]? with
      | some (.cells l) => if vals.length = sz ∧ vals.all AV.one = true then some (off + sz ≤ l.length, .undef, L.set i (.cells (splice l off vals))) else none
      | _ => none
    | _, _ => none
  | .nilchk x => match evD T x with
    | some (.ptr i off) => some (True, .ptr i off, L)
    | some (.iptr l off) => some (True, .iptr l off, L)
    | some (.iface t v) => some (True, .iface t v, L)
    | some (.func f c) => some (True, .func f c, L)
    | _ => none
  | .bin op x y => match evX T x, evX T y with
    | some a, some b => (bin op a b).map fun (c, v) => (c, v, L)
    | _, _ => none
  | .eqk neg k x y => match evX T x, evX T y with
    | some a, some b => (eqA k a b).map fun r => (True, .bool (if neg then !r else r), L)
    | _, _ => none
  | .slnil neg x => match evX T x with
    | some (.sl _ n _) => some (True, if n = 0 then .anyb else .bool neg, L)
    | some (.gsl _ n _ _) => some (True, if n = 0 then .anyb else .bool neg, L)
    | some (.lsl _ _ n _ _) => some (True, if n = 0 then .anyb else .bool neg, L)
    | _ => none
  | .un op x => match evX T x with
    | some a => (un op a).map fun v => (True, v, L)
    | none => none
  | .conv k x => match evX T x with
    | some (.int _ n) => some (True, .int k (k.wrap n), L)
    | _ => none
  | .sconv x => match evX T x with
    | some (.str s) => some (True, .str s, L)
    | _ => none
  | .b2s x => match evX T x with
    | some (.str _) | none => none
    | some v => match elems L 1 v with
      | some (c, l, _) => some (c ∧ l.all isU8 = true, .str (l.map u8of), L)
      | none => none
  | .s2b x => match evX T x with
    | some (.str s) => some (True, .sl (u8s s) s.length none, L)
    | _ => none
  | .s2bO x => match evX T x with
    | some (.str s) => some (True, .lsl L.length 0 s.length none 1, L ++ [.cells (u8s s)])
    | _ => none
  | .rangeS x => match evX T x with
    | some (.str s) => some (True, .ptr L.length 0, L ++ [.siter s 0])
    | _ => none
  | .nextS x => match evX T x with
    | some (.ptr i 0) => match L[i]? with
      | some (.siter s p) => if p < s.length then some (True, .tup [.bool true, .int .i64 (p : Int), .int .i32 ((decU s p).1 : Int)], L.set i (.siter s (p + (decU s p).2))) else some (True, .tup [.bool false], L)
      | _ => none
    | _ => none
  | .mkif t x => (evX T x).map fun v => (True, .iface t v, L)
  | .mkfn f caps => (evXs T caps).map fun l => (True, .func f l, L)
  | .mkslice sz bytes z l c => match evX T l, evX T c with
    | some (.int _ n), some (.int _ m) =>
      some (0 ≤ n ∧ n ≤ m ∧ bytes * m ≤ 2 ^ 48 ∧ m < 2 ^ 62, .lsl L.length 0 n.toNat (some m.toNat) sz, L ++ [.cells (replC z m.toNat)])
    | _, _ => none
  | .slS x lo hi => match evX T x, bnd T lo, bnd T hi with
    | some (.str s), some lo, some hi =>
      some (0 ≤ lo.getD 0 ∧ lo.getD 0 ≤ hi.getD s.length ∧ hi.getD s.length ≤ s.length, .str ((s.drop (lo.getD 0).toNat).take ((hi.getD s.length).toNat - (lo.getD 0).toNat)), L)
    | _, _, _ => none
  | .slV sz x lo hi mx => match evX T x, bnd T lo, bnd T hi, bnd T mx with
    | some .nilsl, some lo, some hi, some none => some (lo.getD 0 = 0 ∧ hi.getD 0 = 0, .nilsl, L)
    | some (.sl l n cap), some lo, some hi, some none =>
      some (0 ≤ lo.getD 0 ∧ lo.getD 0 ≤ hi.getD n ∧ hi.getD n ≤ n,
        .sl ((l.drop ((lo.getD 0).toNat * sz)).take (((hi.getD n).toNat - (lo.getD 0).toNat) * sz)) ((hi.getD n).toNat - (lo.getD 0).toNat) (cap.map (· - (lo.getD 0).toNat)), L)
    | some (.gsl l n _ _), some lo, some (some hi), some (some m) =>
      some (0 ≤ lo.getD 0 ∧ lo.getD 0 ≤ hi ∧ hi ≤ n ∧ hi ≤ m ∧ m ≤ n,
        .sl ((l.drop ((lo.getD 0).toNat * sz)).take ((hi.toNat - (lo.getD 0).toNat) * sz)) (hi.toNat - (lo.getD 0).toNat) (some (m.toNat - (lo.getD 0).toNat)), L)
    | some (.sl l n _), some lo, some (some hi), some (some m) =>
      some (0 ≤ lo.getD 0 ∧ lo.getD 0 ≤ hi ∧ hi ≤ n ∧ hi ≤ m ∧ m ≤ n,
        .sl ((l.drop ((lo.getD 0).toNat * sz)).take ((hi.toNat - (lo.getD 0).toNat) * sz)) (hi.toNat - (lo.getD 0).toNat) (some (m.toNat - (lo.getD 0).toNat)), L)
    | some (.gsl l n _ s), some lo, some hi, some none => some (s = sz ∧ 0 ≤ lo.getD 0 ∧ lo.getD 0 ≤ hi.getD n ∧ hi.getD n ≤ n,
        .sl ((l.drop ((lo.getD 0).toNat * sz)).take (((hi.getD n).toNat - (lo.getD 0).toNat) * sz)) ((hi.getD n).toNat - (lo.getD 0).toNat) none, L)
    | some (.lsl i off n cap s), some lo, some hi, some none =>
      if s = sz then some (0 ≤ lo.getD 0 ∧ lo.getD 0 ≤ hi.getD n ∧ hi.getD n ≤ ((cap.getD n : Nat) : Int), .lsl i (off + (lo.getD 0).toNat * sz) ((hi.getD n).toNat - (lo.getD 0).toNat) (cap.map (· - (lo.getD 0).toNat)) s, L) else none
    | _, _, _, _ => none
  | .slA n sz x lo hi => match evD T x, bnd T lo, bnd T hi with
    | some (.iptr l off), some lo, some hi =>
      some (0 ≤ lo.getD 0 ∧ lo.getD 0 ≤ hi.getD n ∧ hi.getD n ≤ n ∧ off + n * sz ≤ l.length,
        .sl ((l.drop (off + (lo.getD 0).toNat * sz)).take (((hi.getD n).toNat - (lo.getD 0).toNat) * sz)) ((hi.getD n).toNat - (lo.getD 0).toNat) (some (n - (lo.getD 0).toNat)), L)
    | some (.ptr i off), some lo, some hi => match L[i]? with
      | some (.cells l) => some (0 ≤ lo.getD 0 ∧ lo.getD 0 ≤ hi.getD n ∧ hi.getD n ≤ n ∧ off + n * sz ≤ l.length,
        .lsl i (off + (lo.getD 0).toNat * sz) ((hi.getD n).toNat - (lo.getD 0).toNat) (some (n - (lo.getD 0).toNat)) sz, L)
      | _ => none
    | _, _, _ => none
  | .faddr o x => match evD T x with
    | some (.ptr i off) => some (True, .ptr i (off + o), L)
    | some (.iptr l off) => some (True, .iptr l (off + o), L)
    | _ => none
  | .field g o sz x => match evX T x with
    | some (.agg l) => if g then some (o + sz ≤ l.length, .agg ((l.drop o).take sz), L) else some (o < l.length, l.getD o .undef, L)
    | _ => none
  | .iaddr sz x i => match evX T x, evX T i with
    | some (.sl l n _), some (.int _ k) => some (0 ≤ k ∧ k < n, .iptr l (k.toNat * sz), L)
    | some (.gsl l n _ _), some (.int _ k) => some (0 ≤ k ∧ k < n, .iptr l (k.toNat * sz), L)
    | some (.lsl j off n _ _), some (.int _ k) => some (0 ≤ k ∧ k < n, .ptr j (off + k.toNat * sz), L)
    | _, _ => none
  | .iaddrA n sz x i => match evD T x, evX T i with
    | some (.iptr l off), some (.int _ k) => some (0 ≤ k ∧ k < n, .iptr l (off + k.toNat * sz), L)
    | some (.ptr j off), some (.int _ k) => some (0 ≤ k ∧ k < n, .ptr j (off + k.toNat * sz), L)
    | _, _ => none
  | .idxS x i => match evX T x, evX T i with
    | some (.str s), some (.int _ k) => some (0 ≤ k ∧ k < s.length, .int .u8 (s.getD k.toNat 0).toNat, L)
    | _, _ => none
  | .extract x i => match evX T x with
    | some (.tup l) => (l[i]?).map fun v => (True, v, L)
    | _ => none
  | .len true x => match evX T x with
    | some (.str s) => some (True, .int .i64 s.length, L)
    | _ => none
  | .len false x => match evX T x with
    | some .nilsl => some (True, .int .i64 0, L)
    | some (.sl _ n _) => some (True, .int .i64 n, L)
    | some (.gsl _ n _ _) => some (True, .int .i64 n, L)
    | some (.lsl _ _ n _ _) => some (True, .int .i64 n, L)
    | _ => none
  | .cap x => match evX T x with
    | some .nilsl => some (True, .int .i64 0, L)
    | some (.sl _ _ (some c)) => some (True, .int .i64 c, L)
    | some (.lsl _ _ _ (some c) _) => some (True, .int .i64 c, L)
    | _ => none
  | .appz sz bytes z a n => match evX T a, evX T n with
    | some (.lsl i off m (some cp) s), some (.int _ k) => match L[i]? with
      | some (.cells l) => if s = sz then some (0 ≤ k ∧ k ≤ 1099511627776 ∧ cp < m + k.toNat ∧ off + m * sz ≤ l.length ∧ (m + k.toNat) * bytes ≤ 140737488355328 ∧ m + k.toNat ≤ 140737488355328,
          .lsl L.length 0 (m + k.toNat) none sz, L ++ [.cells ((l.drop off).take (m * sz) ++ replC z k.toNat)]) else none
      | _ => none
    | _, _ => none
  | .app own sz bytes _ a b => match evX T a, evX T b with
    | some a, some b => app own sz bytes L a b
    | _, _ => none
  | .copy sz a b => match evX T a, (evX T b).bind (elems L sz) with
    | some .nilsl, some (c, _, _) => some (c, .int .i64 0, L)
    | some (.lsl i off m _ s), some (c, new, n) => match L[i]? with
      | some (.cells l) => if s = sz then some (c ∧ off + m * sz ≤ l.length ∧ (new.take (min n m * sz)).all AV.one = true, .int .i64 (min n m : Nat), L.set i (.cells (splice l off (new.take (min n m * sz))))) else none
      | _ => none
    | _, _ => none
  | .clear sz z x => match evX T x with
    | some .nilsl => some (True, .tup [], L)
    | some (.lsl i off m _ s) => match L[i]? with
      | some (.cells l) => if s = sz then some (off + m * sz ≤ l.length, .tup [], L.set i (.cells (splice l off (replC z m)))) else none
      | _ => none
    | _ => none
  | .minmax mx [x, y] => match evX T x, evX T y with
    | some (.int k a), some (.int _ b) => some (True, .int k (if mx then (if b > a then b else a) else (if b < a then b else a)), L)
    | _, _ => none
  | .mkmap => some (True, .lmap L.length, L ++ [.map [] 0])
  | .mget kd ok z m k => match evX T m, evX T k with
    | some .nilmap, some k => if keyFit kd k = true then some (True, if ok then .tup [z, .bool false] else z, L) else none
    | some (.lmap i), some k => match L[i]? with
      | some (.map es _) => if keyFit kd k = true then (match mfind k es 0 with
        | some (some (_, v)) => some (True, if ok then .tup [v, .bool true] else v, L)
        | some none => some (True, if ok then .tup [z, .bool false] else z, L)
        | none => none) else none
      | _ => none
    | _, _ => none
  | .mset kd m k v => match evX T m, evX T k, evX T v with
    | some (.lmap i), some k, some v => match L[i]? with
      | some (.map es ck) => if keyFit kd k = true then (match mfind k es 0 with
        | some (some (j, _)) => some (True, .undef, L.set i (.map (mput k v es j) ck))
        | some none => some (True, .undef, L.set i (.map (es ++ [(k, v, ck)]) (ck + 1)))
        | none => none) else none
      | _ => none
    | _, _, _ => none
  | .mdel kd m k => match evX T m, evX T k with
    | some .nilmap, some k => if keyFit kd k = true then some (True, .tup [], L) else none
    | some (.lmap i), some k => match L[i]? with
      | some (.map es ck) => if keyFit kd k = true then (match mfind k es 0 with
        | some (some (j, _)) => some (True, .tup [], L.set i (.map (es.eraseIdx j) ck))
        | some none => some (True, .tup [], L.set i (.map es ck))
        | none => none) else none
      | _ => none
    | _, _ => none
  | .mrange x => match evX T x with
    | some .nilmap => some (True, .ptr L.length 0, L ++ [.miter none 0 [] 0])
    | some (.lmap i) => match L[i]? with
      | some (.map es ck) => some (True, .ptr L.length 0, L ++ [.miter (some i) ck [] ck])
      | _ => none
    | _ => none
  | .mnext x => match evX T x with
    | some (.ptr i 0) => match L[i]? with
      | some (.miter none _ _ _) => some (True, .tup [.bool false], L)
      | some (.miter (some j) since seen last) => match L[j]? with
        | some (.map es ck) => match mstep es since seen last with
          | some r => some (True, nextV r, nextL L i j since seen ck r)
          | none => none
        | _ => none
      | _ => none
    | _ => none
  | .mentry x => match evX T x with
    | some (.ptr i 0) => match L[i]? with
      | some (.miter (some j) since seen st) => match L[j]? with
        | some (.map es ck) => match mat es ck seen st with
          | some e => some (True, .tup [e.1, e.2.1], L)
          | none => none
        | _ => none
      | _ => none
    | _ => none
  | .mlen m => match evX T m with
    | some .nilmap => some (True, .int .i64 0, L)
    | some (.lmap i) => match L[i]? with
      | some (.map es _) => some (True, .int .i64 es.length, L)
      | _ => none
    | _ => none
  | _ => none

end Go.Proofs.YtpednpndahgleaaGreatDoor.Av
