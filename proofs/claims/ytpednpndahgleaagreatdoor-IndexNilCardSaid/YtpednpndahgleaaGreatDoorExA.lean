/- An interpreter over abstract values: what a lowered body comes to, reckoned. No program in sight. -/
import Derived.Test.YtpednpndahgleaaGreatDoorAvT
set_option linter.unusedSimpArgs false
set_option linter.unusedVariables false
namespace Go.Proofs.YtpednpndahgleaaGreatDoor.Av
open Go

mutual
/-- Are two abstract values the same? -/
def AV.beq : AV → AV → Bool
  | .undef, .undef => true
  | .bool a, .bool b => a == b
  | .anyb, .anyb => true
  | .int k a, .int j b => decide (k = j) && decide (a = b)
  | .str a, .str b => decide (a = b)
  | .nilptr, .nilptr => true
  | .gptr g o, .gptr h p => Nat.beq g h && Nat.beq o p
  | .ptr i o, .ptr j p => Nat.beq i j && Nat.beq o p
  | .iptr l o, .iptr m p => Nat.beq o p && AV.beqL l m
  | .nilsl, .nilsl => true
  | .sl l n c, .sl m k d => Nat.beq n k && decide (c = d) && AV.beqL l m
  | .lsl i o n c s, .lsl j p k d t => Nat.beq i j && Nat.beq o p && Nat.beq n k && decide (c = d) && Nat.beq s t
  | .gsl l n i s, .gsl m k j t => Nat.beq n k && Nat.beq i j && Nat.beq s t && AV.beqL l m
  | .nilmap, .nilmap => true
  | .lmap i, .lmap j => Nat.beq i j
  | .func f l, .func g m => Nat.beq f g && AV.beqL l m
  | .nilfunc, .nilfunc => true
  | .nilif, .nilif => true
  | .iface t a, .iface u b => Nat.beq t u && AV.beq a b
  | .agg l, .agg m => AV.beqL l m
  | .tup l, .tup m => AV.beqL l m
  | _, _ => false
def AV.beqL : List AV → List AV → Bool
  | [], [] => true
  | a :: l, b :: m => AV.beq a b && AV.beqL l m
  | _, _ => false
end

def condBin (op : BinOp) (x y : AV) : Bool :=
  match op, x, y with
  | .shl, .int _ _, .int _ b => decide (0 ≤ b)
  | .shr, .int _ _, .int _ b => decide (0 ≤ b)
  | .quo, .int _ _, .int _ b => !decide (b = 0)
  | .rem, .int _ _, .int _ b => !decide (b = 0)
  | .add, .str x, .str y => decide (((x.length + y.length : Nat) : Int) ≤ 9223372036854775807)
  | _, _, _ => true

def condEl (L : List Blk) (sz : Nat) : AV → Bool
  | .sl l n _ => decide (l.length = n * sz)
  | .gsl _ _ _ s => decide (s = sz)
  | .lsl i off n _ _ => match L[i]? with
    | some (.cells l) => decide (off + n * sz ≤ l.length)
    | _ => false
  | _ => true

def condApp (own : Nat) (sz bytes : Nat) (L : List Blk) (a b : AV) : Bool :=
  match elems L sz b with
  | none => false
  | some (_, new, n) => condEl L sz b && match a with
    | .sl l m (some k) =>
      if own = 1 then decide (m = k ∧ l.length = m * sz ∧ (m + n) * bytes ≤ 140737488355328 ∧ m + n ≤ 140737488355328)
      else if own = 2 then (if n = 0 then decide (m ≤ k) else decide (m = k ∧ l.length = m * sz ∧ (m + n) * bytes ≤ 140737488355328 ∧ m + n ≤ 140737488355328))
      else decide (m = k ∧ l.length = m * sz ∧ (m + n) * bytes ≤ 140737488355328 ∧ m + n ≤ 140737488355328)
    | .gsl _ m i s => match L[i]? with
      | some (.spare m' s') => new.all AV.one && decide (s = sz ∧ m' = m ∧ s' = sz ∧ (m + n) * bytes ≤ 140737488355328 ∧ m + n ≤ 140737488355328)
      | _ => false
    | .lsl i off m _ _ => match L[i]? with
      | some (.cells l) => new.all AV.one && decide (off + m * sz ≤ l.length ∧ (m + n) * bytes ≤ 140737488355328 ∧ m + n ≤ 140737488355328)
      | _ => false
    | _ => true

/-- The condition of an operation, reckoned. -/
def condE (T : Tm) (L : List Blk) : LOp → Bool
  | .load g sz x => match (evD T x).bind (row L) with
    | some (l, off) => if g then decide (off + sz ≤ l.length) else decide (off < l.length)
    | none => true
  | .store sz a x => match evX T a with
    | some (.ptr i off) => match L[i]? with
      | some (.cells l) => decide (off + sz ≤ l.length)
      | _ => true
    | _ => true
  | .bin op x y => match evX T x, evX T y with
    | some a, some b => condBin op a b
    | _, _ => true
  | .b2s x => match evX T x with
    | none => true
    | some v => match elems L 1 v with
      | some (_, l, _) => condEl L 1 v && l.all isU8
      | none => true
  | .mkslice sz bytes z l c => match evX T l, evX T c with
    | some (.int _ n), some (.int _ m) => decide (0 ≤ n ∧ n ≤ m ∧ bytes * m ≤ 2 ^ 48 ∧ m < 2 ^ 62)
    | _, _ => true
  | .slS x lo hi => match evX T x, bnd T lo, bnd T hi with
    | some (.str s), some lo, some hi => decide (0 ≤ lo.getD 0 ∧ lo.getD 0 ≤ hi.getD s.length ∧ hi.getD s.length ≤ s.length)
    | _, _, _ => true
  | .slV sz x lo hi mx => match evX T x, bnd T lo, bnd T hi, bnd T mx with
    | some .nilsl, some lo, some hi, some none => decide (lo.getD 0 = 0 ∧ hi.getD 0 = 0)
    | some (.sl l n cap), some lo, some hi, some none => decide (0 ≤ lo.getD 0 ∧ lo.getD 0 ≤ hi.getD n ∧ hi.getD n ≤ n)
    | some (.gsl l n _ _), some lo, some (some hi), some (some m) => decide (0 ≤ lo.getD 0 ∧ lo.getD 0 ≤ hi ∧ hi ≤ n ∧ hi ≤ m ∧ m ≤ n)
    | some (.sl l n _), some lo, some (some hi), some (some m) => decide (0 ≤ lo.getD 0 ∧ lo.getD 0 ≤ hi ∧ hi ≤ n ∧ hi ≤ m ∧ m ≤ n)
    | some (.gsl l n _ s), some lo, some hi, some none => decide (s = sz ∧ 0 ≤ lo.getD 0 ∧ lo.getD 0 ≤ hi.getD n ∧ hi.getD n ≤ n)
    | some (.lsl i off n cap s), some lo, some hi, some none => decide (0 ≤ lo.getD 0 ∧ lo.getD 0 ≤ hi.getD n ∧ hi.getD n ≤ ((cap.getD n : Nat) : Int))
    | _, _, _, _ => true
  | .slA n sz x lo hi => match evD T x, bnd T lo, bnd T hi with
    | some (.iptr l off), some lo, some hi => decide (0 ≤ lo.getD 0 ∧ lo.getD 0 ≤ hi.getD n ∧ hi.getD n ≤ n ∧ off + n * sz ≤ l.length)
    | some (.ptr i off), some lo, some hi => match L[i]? with
      | some (.cells l) => decide (0 ≤ lo.getD 0 ∧ lo.getD 0 ≤ hi.getD n ∧ hi.getD n ≤ n ∧ off + n * sz ≤ l.length)
      | _ => true
    | _, _, _ => true
  | .field g o sz x => match evX T x with
    | some (.agg l) => if g then decide (o + sz ≤ l.length) else decide (o < l.length)
    | _ => true
  | .iaddr sz x i => match evX T x, evX T i with
    | some (.sl l n _), some (.int _ k) => decide (0 ≤ k ∧ k < n)
    | some (.gsl l n _ _), some (.int _ k) => decide (0 ≤ k ∧ k < n)
    | some (.lsl j off n _ _), some (.int _ k) => decide (0 ≤ k ∧ k < n)
    | _, _ => true
  | .iaddrA n sz x i => match evD T x, evX T i with
    | some (.iptr l off), some (.int _ k) => decide (0 ≤ k ∧ k < n)
    | some (.ptr j off), some (.int _ k) => decide (0 ≤ k ∧ k < n)
    | _, _ => true
  | .idxS x i => match evX T x, evX T i with
    | some (.str s), some (.int _ k) => decide (0 ≤ k ∧ k < s.length)
    | _, _ => true
  | .appz sz bytes z a n => match evX T a, evX T n with
    | some (.lsl i off m (some cp) s), some (.int _ k) => match L[i]? with
      | some (.cells l) => decide (0 ≤ k ∧ k ≤ 1099511627776 ∧ cp < m + k.toNat ∧ off + m * sz ≤ l.length ∧ (m + k.toNat) * bytes ≤ 140737488355328 ∧ m + k.toNat ≤ 140737488355328)
      | _ => true
    | _, _ => true
  | .app own sz bytes _ a b => match evX T a, evX T b with
    | some a, some b => condApp own sz bytes L a b
    | _, _ => true
  | .copy sz a b => match evX T a, evX T b with
    | some (.lsl i off m _ s), some b => match elems L sz b, L[i]? with
      | some (_, new, n), some (.cells l) => condEl L sz b && decide (off + m * sz ≤ l.length) && (new.take (min n m * sz)).all AV.one
      | _, _ => true
    | _, some b => condEl L sz b
    | _, _ => true
  | .clear sz z x => match evX T x with
    | some (.lsl i off m _ s) => match L[i]? with
      | some (.cells l) => decide (off + m * sz ≤ l.length)
      | _ => true
    | _ => true
  | _ => true

/-- An operation, reckoned: its value, and the blocks behind it. -/
def evalE (T : Tm) (L : List Blk) (lo : LOp) : Option (AV × List Blk) :=
  match evalOp T L lo with
  | some (_, v, L') => if condE T L lo = true then some (v, L') else none
  | none => none

/-! ### The same, in small steps (quicker for the kernel) -/
def lookF : Tm → Nat → Option AV
  | [], _ => none
  | (d, v) :: T, t => match Nat.beq d t with
    | true => some v
    | false => lookF T t
theorem lookF_eq : ∀ (T : Tm) (t : Nat), lookF T t = look T t
  | [], _ => rfl
  | (d, v) :: T, t => by
    simp only [lookF, look]
    cases h : Nat.beq d t with
    | true => rw [if_pos (Nat.eq_of_beq_eq_true h)]
    | false => rw [if_neg (fun e => by rw [e, Nat.beq_refl] at h; cases h)]; exact lookF_eq T t
def evF (T : Tm) : Opd → Option AV
  | .tmp t => lookF T t
  | .av a => some a
theorem evF_eq (T : Tm) (x : Opd) : evF T x = evX T x := by
  cases x with
  | tmp t => exact lookF_eq T t
  | av a => rfl

abbrev RE := Option (AV × List Blk)
def yes (c : Bool) (v : AV) (L : List Blk) : RE := match c with
  | true => some (v, L)
  | false => none

def f_mv (L : List Blk) : Option AV → RE
  | some v => some (v, L)
  | none => none
def f_pick (T : Tm) (L : List Blk) (a b : Opd) : Option AV → RE
  | some (.bool true) => f_mv L (evF T a)
  | some (.bool false) => f_mv L (evF T b)
  | _ => none
def f_load (L : List Blk) (g : Bool) (sz : Nat) : Option (List AV × Nat) → RE
  | some (l, off) => match g with
    | true => yes (decide (off + sz ≤ l.length)) (.agg ((l.drop off).take sz)) L
    | false => yes (decide (off < l.length)) (l.getD off .undef) L
  | none => none
def f_bin (L : List Blk) (op : BinOp) : Option AV → Option AV → RE
  | some a, some b => match bin op a b with
    | some (_, v) => yes (condBin op a b) v L
    | none => none
  | _, _ => none
def f_field (L : List Blk) (g : Bool) (o sz : Nat) : Option AV → RE
  | some (.agg l) => match g with
    | true => yes (decide (o + sz ≤ l.length)) (.agg ((l.drop o).take sz)) L
    | false => yes (decide (o < l.length)) (l.getD o .undef) L
  | _ => none
def f_iaddr (L : List Blk) (sz : Nat) : Option AV → Option AV → RE
  | some (.sl l n _), some (.int _ k) => yes (decide (0 ≤ k ∧ k < n)) (.iptr l (k.toNat * sz)) L
  | some (.gsl l n _ _), some (.int _ k) => yes (decide (0 ≤ k ∧ k < n)) (.iptr l (k.toNat * sz)) L
  | some (.lsl j off n _ _), some (.int _ k) => yes (decide (0 ≤ k ∧ k < n)) (.ptr j (off + k.toNat * sz)) L
  | _, _ => none
def f_idxS (L : List Blk) : Option AV → Option AV → RE
  | some (.str s), some (.int _ k) => yes (decide (0 ≤ k ∧ k < s.length)) (.int .u8 (s.getD k.toNat 0).toNat) L
  | _, _ => none
def f_extract (L : List Blk) (i : Nat) : Option AV → RE
  | some (.tup l) => f_mv L l[i]?
  | _ => none
def f_len (L : List Blk) (str : Bool) : Option AV → RE
  | some (.str s) => match str with
    | true => some (.int .i64 s.length, L)
    | false => none
  | some .nilsl => match str with
    | true => none
    | false => some (.int .i64 0, L)
  | some (.sl _ n _) => match str with
    | true => none
    | false => some (.int .i64 n, L)
  | some (.gsl _ n _ _) => match str with
    | true => none
    | false => some (.int .i64 n, L)
  | some (.lsl _ _ n _ _) => match str with
    | true => none
    | false => some (.int .i64 n, L)
  | _ => none
def f_conv (L : List Blk) (k : IntKind) : Option AV → RE
  | some (.int _ n) => some (.int k (k.wrap n), L)
  | _ => none
def f_un (L : List Blk) (op : UnOp) : Option AV → RE
  | some a => f_mv L (un op a)
  | none => none
def f_eqk (L : List Blk) (neg : Bool) (k : EqK) : Option AV → Option AV → RE
  | some a, some b => match eqA k a b with
    | some r => some (.bool (if neg then !r else r), L)
    | none => none
  | _, _ => none
def f_faddr (L : List Blk) (o : Nat) : Option AV → RE
  | some (.ptr i off) => some (.ptr i (off + o), L)
  | some (.iptr l off) => some (.iptr l (off + o), L)
  | _ => none
def f_build (L : List Blk) : Option (List AV) → RE
  | some l => some (.agg l, L)
  | none => none

/-- An operation, reckoned: the commonest ones in small steps. -/
def evalF (T : Tm) (L : List Blk) (lo : LOp) : RE :=
  match lo with
  | .mv x => f_mv L (evF T x)
  | .pick c a b => f_pick T L a b (evF T c)
  | .load g sz x => f_load L g sz (((evF T x).map deg).bind (row L))
  | .bin op x y => f_bin L op (evF T x) (evF T y)
  | .field g o sz x => f_field L g o sz (evF T x)
  | .iaddr sz x i => f_iaddr L sz (evF T x) (evF T i)
  | .idxS x i => f_idxS L (evF T x) (evF T i)
  | .extract x i => f_extract L i (evF T x)
  | .len str x => f_len L str (evF T x)
  | .conv k x => f_conv L k (evF T x)
  | .un op x => f_un L op (evF T x)
  | .eqk neg k x y => f_eqk L neg k (evF T x) (evF T y)
  | .faddr o x => f_faddr L o ((evF T x).map deg)
  | lo => evalE T L lo

theorem yes_eq (c : Bool) (v : AV) (L : List Blk) : yes c v L = if c = true then some (v, L) else none := by cases c <;> rfl
theorem evalF_some {T : Tm} {L : List Blk} {lo : LOp} {r : AV × List Blk} (h : evalF T L lo = some r) : evalE T L lo = some r := by
  cases lo <;> try exact h
  case mv x =>
    simp only [evalF, evF_eq] at h
    cases hx : evX T x <;> rw [hx] at h <;> simp only [f_mv, reduceCtorEq] at h
    simp only [evalE, evalOp, condE, hx, Option.map_some, if_true]; exact h
  case pick c a b =>
    simp only [evalF, evF_eq] at h
    cases hc : evX T c with
    | none => rw [hc] at h; simp [f_pick] at h
    | some v =>
      rw [hc] at h
      cases v <;> simp only [f_pick, reduceCtorEq] at h
      rename_i b'
      cases b' <;> simp only [evF_eq] at h
      · cases hb : evX T b <;> rw [hb] at h <;> simp only [f_mv, reduceCtorEq] at h
        simp only [evalE, evalOp, condE, hc, hb, Option.map_some, if_true]; exact h
      · cases ha : evX T a <;> rw [ha] at h <;> simp only [f_mv, reduceCtorEq] at h
        simp only [evalE, evalOp, condE, hc, ha, Option.map_some, if_true]; exact h
  case load g sz x =>
    simp only [evalF, evF_eq] at h
    cases hr : ((evX T x).map deg).bind (row L) with
    | none => rw [hr] at h; simp [f_load] at h
    | some q =>
      obtain ⟨l, off⟩ := q
      rw [hr] at h
      have e : (evD T x).bind (row L) = some (l, off) := hr
      simp only [evalE, evalOp, condE, e]
      cases g <;> simpa [f_load, yes_eq] using h
  case bin op x y =>
    simp only [evalF, evF_eq] at h
    cases hx : evX T x with
    | none => rw [hx] at h; simp [f_bin] at h
    | some a =>
      cases hy : evX T y with
      | none => rw [hx, hy] at h; simp [f_bin] at h
      | some b =>
        rw [hx, hy] at h
        simp only [f_bin] at h
        cases hb : bin op a b with
        | none => rw [hb] at h; simp at h
        | some q =>
          rw [hb] at h
          simp only [evalE, evalOp, condE, hx, hy, hb, Option.map_some]
          simpa [yes_eq] using h
  case field g o sz x =>
    simp only [evalF, evF_eq] at h
    cases hx : evX T x with
    | none => rw [hx] at h; simp [f_field] at h
    | some a =>
      rw [hx] at h
      cases a <;> simp only [f_field, reduceCtorEq] at h
      simp only [evalE, evalOp, condE, hx]
      cases g <;> simpa [yes_eq] using h
  case iaddr sz x i =>
    simp only [evalF, evF_eq] at h
    cases hx : evX T x with
    | none => rw [hx] at h; simp [f_iaddr] at h
    | some a =>
      cases hi : evX T i with
      | none => rw [hx, hi] at h; cases a <;> simp [f_iaddr] at h
      | some b =>
        rw [hx, hi] at h
        cases a <;> cases b <;> simp only [f_iaddr, reduceCtorEq] at h <;> simp only [evalE, evalOp, condE, hx, hi] <;> simpa [yes_eq] using h
  case idxS x i =>
    simp only [evalF, evF_eq] at h
    cases hx : evX T x with
    | none => rw [hx] at h; simp [f_idxS] at h
    | some a =>
      cases hi : evX T i with
      | none => rw [hx, hi] at h; cases a <;> simp [f_idxS] at h
      | some b =>
        rw [hx, hi] at h
        cases a <;> cases b <;> simp only [f_idxS, reduceCtorEq] at h <;> simp only [evalE, evalOp, condE, hx, hi] <;> simpa [yes_eq] using h
  case extract x i =>
    simp only [evalF, evF_eq] at h
    cases hx : evX T x with
    | none => rw [hx] at h; simp [f_extract] at h
    | some a =>
      rw [hx] at h
      cases a <;> simp only [f_extract, reduceCtorEq] at h
      rename_i l
      cases hl : l[i]? with
      | none => rw [hl] at h; simp [f_mv] at h
      | some v => rw [hl] at h; simp only [evalE, evalOp, condE, hx, hl, Option.map_some, if_true]; exact h
  case len str x =>
    simp only [evalF, evF_eq] at h
    cases hx : evX T x with
    | none => rw [hx] at h; simp [f_len] at h
    | some a => rw [hx] at h; cases a <;> cases str <;> simp only [f_len, reduceCtorEq] at h <;> simp only [evalE, evalOp, condE, hx, if_true] <;> exact h
  case conv k x =>
    simp only [evalF, evF_eq] at h
    cases hx : evX T x with
    | none => rw [hx] at h; simp [f_conv] at h
    | some a => rw [hx] at h; cases a <;> simp only [f_conv, reduceCtorEq] at h <;> simp only [evalE, evalOp, condE, hx, if_true] <;> exact h
  case un op x =>
    simp only [evalF, evF_eq] at h
    cases hx : evX T x with
    | none => rw [hx] at h; simp [f_un] at h
    | some a =>
      rw [hx] at h
      simp only [f_un] at h
      cases hu : un op a with
      | none => rw [hu] at h; simp [f_mv] at h
      | some v => rw [hu] at h; simp only [evalE, evalOp, condE, hx, hu, Option.map_some, if_true]; exact h
  case eqk neg k x y =>
    simp only [evalF, evF_eq] at h
    cases hx : evX T x with
    | none => rw [hx] at h; simp [f_eqk] at h
    | some a =>
      cases hy : evX T y with
      | none => rw [hx, hy] at h; simp [f_eqk] at h
      | some b =>
        rw [hx, hy] at h
        simp only [f_eqk] at h
        cases hq : eqA k a b with
        | none => rw [hq] at h; simp at h
        | some v => rw [hq] at h; simp only [evalE, evalOp, condE, hx, hy, hq, Option.map_some, if_true]; exact h
  case faddr o x =>
    simp only [evalF, evF_eq] at h
    cases hx : (evX T x).map deg with
    | none => rw [hx] at h; simp [f_faddr] at h
    | some a =>
      have e : evD T x = some a := hx
      rw [hx] at h
      cases a <;> simp only [f_faddr, reduceCtorEq] at h <;> simp only [evalE, evalOp, condE, e, if_true] <;> exact h

/-! ### The interpreter -/
abbrev CallF := FuncId → List AV → List Blk → Option (AV × List Blk)
abbrev RunF := FuncId → List AV → Option AV

def xOp (call : CallF) (o : LOper) (T : Tm) (L : List Blk) : Option (AV × List Blk) :=
  match o.op with
  | .call f xs => match evXs T xs with
    | some args => call f args L
    | none => none
  | .callv f xs => match evX T f, evXs T xs with
    | some (.func g caps), some args => call g (args ++ caps) L
    | _, _ => none
  | lo => evalF T L lo

/-- An operation, with its guard. -/
def xG (call : CallF) (o : LOper) (T : Tm) (L : List Blk) : Option (AV × List Blk) :=
  match o.guard with
  | none => xOp call o T L
  | some (t, b) => match look T t with
    | some (.bool x) => if x = b then xOp call o T L else some (.tup [], L)
    | some (.tup []) => some (.tup [], L)
    | _ => none

def xOps (call : CallF) : List LOper → Tm → List Blk → Option (Tm × List Blk)
  | [], T, L => some (T, L)
  | o :: r, T, L => match xG call o T L with
    | some (v, L') => xOps call r (putT o.dst v T) L'
    | none => none

/-- An operation that leaves the blocks. -/
def qOp (run : RunF) (o : LOper) (T : Tm) (L : List Blk) : Option AV :=
  match o.op with
  | .call f xs => match evXs T xs with
    | some args => run f args
    | none => none
  | .callv f xs => match evX T f, evXs T xs with
    | some (.func g caps), some args => run g (args ++ caps)
    | _, _ => none
  | lo => if lo.effB then none else match evalF T L lo with
    | some (v, _) => some v
    | none => none

def qG (run : RunF) (o : LOper) (T : Tm) (L : List Blk) : Option AV :=
  match o.guard with
  | none => qOp run o T L
  | some (t, b) => match look T t with
    | some (.bool x) => if x = b then qOp run o T L else some (.tup [])
    | some (.tup []) => some (.tup [])
    | _ => none

mutual
/-- Operations and groups that leave the blocks. -/
def qL (run : RunF) (L : List Blk) : List SOp → Tm → Option Tm
  | [], T => some T
  | s :: r, T => match qS run L s T with
    | some T' => qL run L r T'
    | none => none
def qS (run : RunF) (L : List Blk) : SOp → Tm → Option Tm
  | .op o, T => match qOp run o T L with
    | some v => some (putT o.dst v T)
    | none => none
  | .grp _ t b body d x, T => match look T t with
    | some (.bool p) => if p = b then (match qL run L body T with
        | some T' => match evX T' x with
          | some (.bool q) => some ((d, .bool q) :: T)
          | _ => none
        | none => none) else some ((d, .bool (!b)) :: T)
    | _ => none
end

/-- A region whose order is the text's. -/
def xL (call : CallF) (run : RunF) : List SOp → Tm → List Blk → Option (Tm × List Blk)
  | [], T, L => some (T, L)
  | .op o :: r, T, L => match xG call o T L with
    | some (v, L') => xL call run r (putT o.dst v T) L'
    | none => none
  | .grp g t b body d x :: r, T, L => match qS run L (.grp g t b body d x) T with
    | some T' => xL call run r T' L
    | none => none

def sameAt (run : RunF) (o : LOper) (T : Tm) (v : AV) : List (List Blk) → Bool
  | [] => true
  | L :: Ls => (match qG run o T L with | some u => u.beq v | none => false) && sameAt run o T v Ls

def chkH (run : RunF) (L : List Blk) : List Kept → Bool
  | [] => true
  | (_, o, T, v) :: h => (match qG run o T L with | some u => u.beq v | none => false) && chkH run L h

/-- A region in any order. -/
def xD (call : CallF) (run : RunF) : List (LOper × Kd) → List (List Blk) → List Kept → Tm → Option (Tm × List Blk)
  | [], L :: _, _, T => some (T, L)
  | (o, .pure) :: r, L :: Ls, H, T => match qG run o T L with
    | some v => xD call run r (L :: Ls) H (putT o.dst v T)
    | none => none
  | (o, .read n f) :: r, L :: Ls, H, T => match qG run o T L with
    | some v => if sameAt run o T v (Ls.take n) = true then xD call run r (L :: Ls) (kept f o T v H) (putT o.dst v T) else none
    | none => none
  | (o, .eff) :: r, L :: Ls, H, T => match xG call o T L with
    | some (v, L2) => if chkH run L2 H = true then xD call run r (L2 :: L :: Ls) (dec1 H) (putT o.dst v T) else none
    | none => none
  | _, [], _, _ => none

def xSel (mask : List Bool) (r : Option (Tm × List Blk)) : Option (Exit × Tm × List Blk) :=
  match r with
  | some (T, L) => if selB mask T = true then some (.normal, sel mask T, L) else none
  | none => none

/-- What a loop's next round needs to know: what was told of at its head. -/
def cutT (T' : Tm) : Tm → Tm
  | [] => []
  | (t, _) :: T => match look T' t with
    | some v => (t, v) :: cutT T' T
    | none => cutT T' T

/-- A statement. -/
def exec (call : CallF) (run : RunF) : Nat → LCode → Tm → List Blk → Option (Exit × Tm × List Blk)
  | 0, _, _, _ => none
  | n + 1, lc, T, L => match lc with
    | .skip => some (.normal, T, L)
    | .sreg sops mask => if (okS sops && frB (gds sops) T) = true then xSel mask (xL call run sops T L) else none
    | .sdreg sops kds mask => if (okG none [] [] sops && frB (gds sops) T && decide (kds.length ≤ (SOp.flatL sops).length)) = true then xSel mask ((qL run L sops T).map fun T' => (T', L)) else none
    | .dregM qk ts mask => match xD call run qk [L] [] T with
      | some (T', L') => xSel mask (xOps call ts T' L')
      | none => none
    | .region ops => match xOps call ops T L with
      | some (T', L') => some (.normal, T', L')
      | none => none
    | .dregion qk ts => match xD call run qk [L] [] T with
      | some (T', L') => match xOps call ts T' L' with
        | some (T'', L'') => some (.normal, T'', L'')
        | none => none
      | none => none
    | .seq a b => match exec call run n a T L with
      | some (.normal, T', L') => exec call run n b T' L'
      | r => r
    | .cond x a b => match evX T x with
      | some (.bool true) => exec call run n a T L
      | some (.bool false) => exec call run n b T L
      | _ => none
    | .block id c => match exec call run n c T L with
      | some (.exit i, T', L') => if i = id then some (.normal, T', L') else some (.exit i, T', L')
      | r => r
    | .loop c => match exec call run n c T L with
      | some (.normal, T', L') => exec call run n (.loop c) (cutT T' T) L'
      | r => r
    | .exit id => some (.exit id, T, L)
    | .ret => some (.ret, T, L)

def condR (T : Tm) (L : List Blk) : List LRes → Bool
  | [] => true
  | .tmp _ :: l => condR T L l
  | .cell g sz t :: l => (match (look T t).bind (row L) with
    | some (r, off) => if g then decide (off + sz ≤ r.length) else decide (off < r.length)
    | none => true) && condR T L l

/-- What a body hands back. -/
def xRes (T : Tm) (L : List Blk) (res : List LRes) : Option AV :=
  match resA T L res with
  | some (_, rs) => if condR T L res = true then some (retA rs) else none
  | none => none

def closedA (a : AV) : Bool := a.refs fun _ => false
def closedL (l : List AV) : Bool := AV.refsL (fun _ => false) l

/-- What a call hands back of its own rows: as others read it. -/
def snaps : List Blk → Nat → AV → AV
  | [], _, v => v
  | .cells l :: r, i, v => snaps r (i + 1) (v.snap i l)
  | _ :: r, i, v => snaps r (i + 1) v

/-- The functions: what is known of each. 'inl': it is gone into with the caller's own blocks. -/
structure Tab where
  fn : FuncId → Option LFun
  inl : FuncId → Bool
  prim : FuncId → List AV → Option AV
  primL : FuncId → List AV → List Blk → Option (AV × List Blk)
  fuel : Nat

/-- A body, begun with these blocks. -/
def xBody (tab : Tab) (call : CallF) (run : RunF) (lf : LFun) (args : List AV) (L : List Blk) : Option (AV × List Blk) :=
  if args.length ≤ lf.ntmps then match exec call run tab.fuel lf.code (initT 0 args) L with
    | some (.normal, T, L') => match xRes T L' lf.res with
      | some v => some (v, L')
      | none => none
    | some (.ret, T, L') => match xRes T L' lf.res with
      | some v => some (v, L')
      | none => none
    | _ => none
  else none

def pureOf (r : Option (AV × List Blk)) : Option AV :=
  match r with
  | some (v, L') => let u := (snaps L' 0 v).frz
    if closedA u = true then some u else none
  | none => none

mutual
/-- A call that is gone into with no blocks. -/
def runN (tab : Tab) : Nat → RunF
  | 0 => fun _ _ => none
  | d + 1 => fun f args => if closedL args = true then match tab.prim f args with
    | some v => if closedA v = true then some v else none
    | none => match tab.fn f with
      | some lf => pureOf (xBody tab (callN tab d) (runN tab d) lf args [])
      | none => none
    else none
/-- A call. -/
def callN (tab : Tab) : Nat → CallF
  | 0 => fun _ _ _ => none
  | d + 1 => fun f args L => match tab.primL f args L with
    | some r => some r
    | none => if tab.inl f = true then match tab.fn f with
      | some lf => xBody tab (callN tab d) (runN tab d) lf args L
      | none => none
    else match runN tab d f args with
      | some v => some (v, L)
      | none => match tab.fn f with
        | some lf => xBody tab (callN tab d) (runN tab d) lf args L
        | none => none
end

end Go.Proofs.YtpednpndahgleaaGreatDoor.Av
