/- Operations among other blocks: what lies ahead makes no difference but to the blocks' numbers. No program in sight. -/
import Derived.Test.YtpednpndahgleaaGreatDoorExB
set_option linter.unusedSimpArgs false
set_option linter.unusedVariables false
namespace Go.Proofs.YtpednpndahgleaaGreatDoor.Av
open Go
set_option maxHeartbeats 4000000

def sf (B : Nat) (i : Nat) : Nat := i + B
abbrev AV.sh (B : Nat) (a : AV) : AV := a.ren (sf B)
abbrev shL (B : Nat) (l : List AV) : List AV := AV.renL (sf B) l
def shT (B : Nat) (T : Tm) : Tm := T.map fun p => (p.1, p.2.sh B)
def Blk.sh (B : Nat) : Blk → Blk
  | .cells l => .cells (shL B l)
  | .map es ck => .map (es.map fun e => (e.1.sh B, e.2.1.sh B, e.2.2)) ck
  | .miter m since seen last => .miter (m.map (sf B)) since seen last
  | k => k
/-- The blocks of a call that stands behind L0's. -/
def onto (L0 M : List Blk) : List Blk := L0 ++ M.map (Blk.sh L0.length)

mutual
theorem ren_closed {f : Nat → Nat} : ∀ {a : AV}, a.refs (fun _ => false) = true → a.ren f = a
  | .undef, _ => rfl
  | .bool _, _ => rfl
  | .anyb, _ => rfl
  | .int _ _, _ => rfl
  | .str _, _ => rfl
  | .nilptr, _ => rfl
  | .gptr _ _, _ => rfl
  | .ptr _ _, h => by simp [AV.refs] at h
  | .iptr l o, h => by simp only [AV.refs] at h; simp only [AV.ren, renL_closed h]
  | .nilsl, _ => rfl
  | .sl l n c, h => by simp only [AV.refs] at h; simp only [AV.ren, renL_closed h]
  | .lsl _ _ _ _ _, h => by simp [AV.refs] at h
  | .gsl _ _ _ _, h => by simp [AV.refs] at h
  | .nilmap, _ => rfl
  | .lmap _, h => by simp [AV.refs] at h
  | .func g l, h => by simp only [AV.refs] at h; simp only [AV.ren, renL_closed h]
  | .nilfunc, _ => rfl
  | .nilif, _ => rfl
  | .iface t a, h => by simp only [AV.refs] at h; simp only [AV.ren, ren_closed h]
  | .agg l, h => by simp only [AV.refs] at h; simp only [AV.ren, renL_closed h]
  | .tup l, h => by simp only [AV.refs] at h; simp only [AV.ren, renL_closed h]
theorem renL_closed {f : Nat → Nat} : ∀ {l : List AV}, AV.refsL (fun _ => false) l = true → AV.renL f l = l
  | [], _ => rfl
  | a :: l, h => by
    simp only [AV.refsL, Bool.and_eq_true] at h
    simp only [AV.renL, ren_closed h.1, renL_closed h.2]
end

def Opd.okc : Opd → Bool
  | .tmp _ => true
  | .av a => closedA a
def optOk : Option Opd → Bool
  | none => true
  | some x => x.okc
def opdsOk : List Opd → Bool
  | [] => true
  | x :: l => x.okc && opdsOk l
def partsOk : List (Nat × Nat × Opd) → Bool
  | [] => true
  | (_, _, x) :: l => x.okc && partsOk l
def LOp.okc : LOp → Bool
  | .mv x | .box x | .nilchk x | .un _ x | .conv _ x | .sconv x | .b2s x | .s2b x | .s2bO x | .rangeS x | .nextS x | .mkif _ x | .faddr _ x | .field _ _ _ x | .extract x _ | .len _ x | .cap x | .load _ _ x | .slnil _ x => x.okc
  | .pick c a b => c.okc && a.okc && b.okc
  | .alloc z => closedL z
  | .build z ps => closedL z && partsOk ps
  | .bslice _ _ _ z ps => closedL z && partsOk ps
  | .store _ a x | .bin _ a x | .eqk _ _ a x | .iaddr _ a x | .iaddrA _ _ a x | .idxS a x | .copy _ a x => a.okc && x.okc
  | .mkfn _ xs | .minmax _ xs | .call _ xs => opdsOk xs
  | .callv f xs => f.okc && opdsOk xs
  | .mkslice _ _ z l c => closedL z && l.okc && c.okc
  | .slS x lo hi => x.okc && optOk lo && optOk hi
  | .slV _ x lo hi mx => x.okc && optOk lo && optOk hi && optOk mx
  | .slA _ _ x lo hi => x.okc && optOk lo && optOk hi
  | .appz _ _ z a n => closedL z && a.okc && n.okc
  | .app _ _ _ z a b => closedL z && a.okc && b.okc
  | .clear _ z x => closedL z && x.okc
  | .bad | .mkmap => true
  | .mget _ _ z m k => closedA z && m.okc && k.okc
  | .mset _ m k v => m.okc && k.okc && v.okc
  | .mdel _ m k => m.okc && k.okc
  | .mlen m | .mrange m | .mnext m | .mentry m => m.okc

theorem glob_closed : ∀ {g : Nat} {l : List AV}, globOf g = some l → AV.refsL (fun _ => false) l = true := fun {g l} h => by
  have hall : globTab.all (fun p => AV.refsL (fun _ => false) p.2) = true := by decide +kernel
  exact List.all_eq_true.1 hall _ (globOf_mem h)

section
variable {B : Nat} {L0 M : List Blk} {T : Tm}

theorem look_sh (t : Nat) : look (shT B T) t = (look T t).map (AV.sh B) := by
  induction T with
  | nil => rfl
  | cons p T ih =>
    obtain ⟨d, v⟩ := p
    simp only [shT, List.map_cons, look] at ih ⊢
    split
    · rfl
    · exact ih

theorem evX_sh {x : Opd} (h : x.okc = true) : evX (shT B T) x = (evX T x).map (AV.sh B) := by
  cases x with
  | tmp t => exact look_sh t
  | av a => simp only [evX, Option.map_some, AV.sh]; rw [ren_closed h]
theorem evXs_sh : ∀ {l : List Opd}, opdsOk l = true → evXs (shT B T) l = (evXs T l).map (shL B)
  | [], _ => rfl
  | x :: l, h => by
    simp only [opdsOk, Bool.and_eq_true] at h
    simp only [evXs, evX_sh h.1, evXs_sh h.2]
    cases evX T x <;> cases evXs T l <;> simp [shL, AV.renL]
theorem bnd_sh {x : Option Opd} (h : optOk x = true) : bnd (shT B T) x = bnd T x := by
  cases x with
  | none => rfl
  | some x =>
    simp only [optOk] at h
    simp only [bnd, evX_sh h]
    cases evX T x with
    | none => rfl
    | some a => cases a <;> simp [AV.sh, AV.ren]

theorem deg_sh (a : AV) : deg (a.sh B) = (deg a).sh B := by
  cases a <;> simp only [AV.sh, AV.ren, deg]
  split
  · rename_i l hl
    simp only [AV.ren, renL_closed (glob_closed hl)]
  · simp only [AV.ren]
theorem evD_sh {x : Opd} (h : x.okc = true) : evD (shT B T) x = (evD T x).map (AV.sh B) := by
  simp only [evD, evX_sh h, Option.map_map]
  cases evX T x <;> simp [deg_sh]

theorem get_sh (i : Nat) : (onto L0 M)[sf L0.length i]? = (M[i]?).map (Blk.sh L0.length) := by
  simp only [onto, sf]
  rw [List.getElem?_append_right (by omega), Nat.add_sub_cancel, List.getElem?_map]
theorem set_sh (i : Nat) (k : Blk) : (onto L0 M).set (sf L0.length i) (k.sh L0.length) = onto L0 (M.set i k) := by
  simp only [onto, sf]
  rw [List.set_append_right _ _ (by omega), Nat.add_sub_cancel, List.map_set]
theorem push_sh (k : Blk) : onto L0 M ++ [k.sh L0.length] = onto L0 (M ++ [k]) := by simp [onto]
theorem len_sh : (onto L0 M).length = sf L0.length M.length := by simp [onto, sf, Nat.add_comm]

theorem shL_map (l : List AV) : shL B l = l.map (AV.sh B) := AV.renL_eq
theorem shL_len (l : List AV) : (shL B l).length = l.length := by simp [shL_map]
theorem shL_drop (l : List AV) (n : Nat) : (shL B l).drop n = shL B (l.drop n) := by simp [shL_map]
theorem shL_take (l : List AV) (n : Nat) : (shL B l).take n = shL B (l.take n) := by simp [shL_map]
theorem shL_app (l m : List AV) : shL B l ++ shL B m = shL B (l ++ m) := by simp [shL_map]
theorem shL_getD (l : List AV) (n : Nat) : (shL B l).getD n .undef = (l.getD n .undef).sh B := by
  simp only [shL_map, List.getD_eq_getElem?_getD, List.getElem?_map]
  cases l[n]? <;> rfl
theorem shL_get (l : List AV) (n : Nat) : (shL B l)[n]? = (l[n]?).map (AV.sh B) := by simp [shL_map]
theorem splice_sh (l v : List AV) (n : Nat) : splice (shL B l) n (shL B v) = shL B (splice l n v) := by
  simp only [splice, shL_take, shL_len, shL_drop, shL_app]
theorem one_sh (a : AV) : AV.one (a.sh B) = AV.one a := by cases a <;> rfl
theorem allone_sh (l : List AV) : (shL B l).all AV.one = l.all AV.one := by
  rw [shL_map, List.all_map]; congr 1; funext a; exact one_sh a
theorem isU8_sh (l : List AV) : (shL B l).all isU8 = l.all isU8 := by
  rw [shL_map, List.all_map]; congr 1; funext a; cases a <;> rfl
theorem u8of_sh (l : List AV) : (shL B l).map u8of = l.map u8of := by
  rw [shL_map, List.map_map]; congr 1; funext a; cases a <;> rfl
theorem shL_ints (k : IntKind) (l : List Int) : shL B (l.map (AV.int k)) = l.map (AV.int k) := by
  rw [shL_map, List.map_map]; rfl
theorem u8s_sh (s : List UInt8) : shL B (u8s s) = u8s s := by
  rw [shL_map, u8s, List.map_map]; rfl
theorem replC_closed {z : List AV} (h : closedL z = true) : ∀ n, shL B (replC z n) = replC z n
  | 0 => rfl
  | n + 1 => by
    rw [replC, ← shL_app, replC_closed h n]
    congr 1
    exact renL_closed h
mutual
theorem frz_sh : ∀ (a : AV), (a.sh B).frz = (a.frz).sh B
  | .undef => rfl
  | .bool _ => rfl
  | .anyb => rfl
  | .int _ _ => rfl
  | .str _ => rfl
  | .nilptr => rfl
  | .gptr _ _ => rfl
  | .ptr _ _ => rfl
  | .iptr l o => rfl
  | .nilsl => rfl
  | .sl l n c => by simp only [AV.sh, AV.ren, AV.frz]; rw [frzL_sh l]
  | .lsl _ _ _ _ _ => rfl
  | .gsl l _ _ _ => by simp only [AV.sh, AV.ren, AV.frz]; rw [frzL_sh l]
  | .nilmap => rfl
  | .lmap _ => rfl
  | .func g l => rfl
  | .nilfunc => rfl
  | .nilif => rfl
  | .iface t a => by simp only [AV.sh, AV.ren, AV.frz]; rw [frz_sh a]
  | .agg l => by simp only [AV.sh, AV.ren, AV.frz]; rw [frzL_sh l]
  | .tup l => by simp only [AV.sh, AV.ren, AV.frz]; rw [frzL_sh l]
theorem frzL_sh : ∀ (l : List AV), AV.frzL (AV.renL (sf B) l) = AV.renL (sf B) (AV.frzL l)
  | [] => rfl
  | a :: l => by
    simp only [AV.renL, AV.frzL]
    have := frz_sh a
    simp only [AV.sh] at this
    rw [frzL_sh l, this]
end

theorem cells?_sh (a : AV) : (a.sh B).cells? = a.cells?.map (shL B) := by cases a <;> rfl

theorem fillA_sh : ∀ {ps : List (Nat × Nat × Opd)} {z : List AV}, partsOk ps = true → fillA (shT B T) (shL B z) ps = (fillA T z ps).map (shL B)
  | [], z, _ => rfl
  | (o, s, x) :: l, z, h => by
    simp only [partsOk, Bool.and_eq_true] at h
    simp only [fillA, evX_sh h.1]
    cases hx : evX T x with
    | none => rfl
    | some a =>
      simp only [Option.map_some, Option.bind_some, cells?_sh]
      cases a.cells? with
      | none => rfl
      | some vals =>
        simp only [Option.map_some, shL_len]
        split
        · rw [splice_sh]; exact fillA_sh h.2
        · rfl
theorem fillA_shz {ps : List (Nat × Nat × Opd)} {z : List AV} (hz : closedL z = true) (h : partsOk ps = true) : fillA (shT B T) z ps = (fillA T z ps).map (shL B) := by
  have := fillA_sh (B := B) (T := T) (z := z) h
  rwa [show shL B z = z from renL_closed hz] at this

theorem row_sh (a : AV) : row (onto L0 M) (a.sh L0.length) = (row M a).map fun r => (shL L0.length r.1, r.2) := by
  cases a <;> simp only [AV.sh, AV.ren, row, Option.map_none, Option.map_some]
  rw [get_sh]
  rename_i i off
  cases hk : M[i]? with
  | none => rfl
  | some k => cases k <;> rfl

theorem elems_sh (sz : Nat) (a : AV) : elems (onto L0 M) sz (a.sh L0.length) = (elems M sz a).map fun r => (r.1, shL L0.length r.2.1, r.2.2) := by
  cases a <;> simp only [AV.sh, AV.ren, elems, Option.map_none, Option.map_some]
  case nilsl => rfl
  case sl => simp only [shL_len]
  case lsl i off n cp s =>
    rw [get_sh]
    cases hk : M[i]? with
    | none => rfl
    | some k => cases k <;> simp [Blk.sh, shL_len, shL_drop, shL_take]
  case str s =>
    split
    · simp only [Option.map_some, u8s_sh]
    · rfl

theorem bin_sh (op : BinOp) (x y : AV) : bin op (x.sh B) (y.sh B) = (bin op x y).map fun r => (r.1, r.2.sh B) := by
  have hI : ∀ (op : BinOp) (k : IntKind) (a b : Int), binI op k a b = (binI op k a b).map fun r => (r.1, r.2.sh B) := fun op k a b => by cases op <;> rfl
  have hS : ∀ (op : BinOp) (a b : List UInt8), binS op a b = (binS op a b).map fun r => (r.1, r.2.sh B) := fun op a b => by cases op <;> rfl
  cases x
  case int k a =>
    cases y
    case int j b =>
      cases op <;> simp only [AV.sh, AV.ren, bin, Option.map_none, Option.map_some] <;> first
        | rfl
        | (split
           · exact hI _ _ _ _
           · rfl)
    all_goals cases op <;> rfl
  case str s =>
    cases y
    case str s' => cases op <;> first | rfl | exact hS _ _ _
    all_goals cases op <;> rfl
  all_goals cases op <;> rfl
theorem eqA_sh (k : EqK) (x y : AV) : eqA k (x.sh B) (y.sh B) = eqA k x y := by
  cases k <;> cases x <;> first | rfl | (cases y <;> rfl)
theorem un_sh (op : UnOp) (x : AV) : un op (x.sh B) = (un op x).map (AV.sh B) := by
  cases op <;> cases x <;> rfl

def shE (B : Nat) (l : List (AV × AV × Nat)) : List (AV × AV × Nat) := l.map fun e => (e.1.sh B, e.2.1.sh B, e.2.2)
theorem keyq1_sh (a b : AV) : keyq1 (a.sh B) (b.sh B) = keyq1 a b := by cases a <;> first | rfl | (cases b <;> rfl)
theorem keyqL_sh : ∀ (l m : List AV), keyqL (AV.renL (sf B) l) (AV.renL (sf B) m) = keyqL l m
  | [], [] => rfl
  | [], _ :: _ => rfl
  | _ :: _, [] => rfl
  | a :: l, b :: m => by
    have h := keyq1_sh (B := B) a b
    simp only [AV.sh] at h
    simp only [AV.renL, keyqL, h, keyqL_sh l m]
theorem keyq_sh (a b : AV) : keyq (a.sh B) (b.sh B) = keyq a b := by
  cases a <;> first
    | rfl
    | (cases b <;> first | rfl | (simp only [AV.sh, AV.ren, keyq, keyqL_sh]))
theorem pFit_sh (k : PKey) (a : AV) : pFit k (a.sh B) = pFit k a := by cases k <;> cases a <;> rfl
theorem pFitL_sh : ∀ (ks : List PKey) (l : List AV), pFitL ks (AV.renL (sf B) l) = pFitL ks l
  | [], [] => rfl
  | [], _ :: _ => rfl
  | _ :: _, [] => rfl
  | k :: ks, a :: l => by
    have h := pFit_sh (B := B) k a
    simp only [AV.sh] at h
    simp only [AV.renL, pFitL, h, pFitL_sh ks l]
theorem keyFit_sh (kd : KeyK) (a : AV) : keyFit kd (a.sh B) = keyFit kd a := by
  cases kd <;> cases a <;> first | rfl | (simp only [AV.sh, AV.ren, keyFit, pFitL_sh])
theorem mfind_sh (k : AV) : ∀ (l : List (AV × AV × Nat)) (i : Nat), mfind (k.sh B) (shE B l) i = (mfind k l i).map fun r => r.map fun p => (p.1, p.2.sh B)
  | [], i => rfl
  | (q, x, b) :: l, i => by
    simp only [shE, List.map_cons, mfind, keyq_sh]
    cases keyq k q with
    | none => rfl
    | some b =>
      cases b
      · exact mfind_sh k l (i + 1)
      · rfl
theorem eraseIdx_map' {X Y : Type} (f : X → Y) : ∀ (l : List X) (j : Nat), (l.map f).eraseIdx j = (l.eraseIdx j).map f
  | [], _ => rfl
  | _ :: _, 0 => rfl
  | x :: l, j + 1 => by simp [eraseIdx_map' f l j]
theorem mput_sh (k v : AV) : ∀ (l : List (AV × AV × Nat)) (j : Nat), mput (k.sh B) (v.sh B) (shE B l) j = shE B (mput k v l j)
  | [], j => rfl
  | (q, x, b) :: l, 0 => rfl
  | (q, x, b) :: l, j + 1 => by
    have := mput_sh k v l j
    simp only [shE, List.map_cons, mput] at this ⊢
    rw [this]

theorem mstep_sh (es : List (AV × AV × Nat)) (since : Nat) (seen : List Nat) (last : Nat) : mstep (shE B es) since seen last = (mstep es since seen last).map fun r => r.map fun e => (e.1.sh B, e.2.1.sh B, e.2.2) := by
  unfold mstep
  simp only [shE, List.filter_map, List.all_map, List.isEmpty_map, Function.comp_def]
  split
  · rfl
  · generalize List.filter (fun x => decide (x.2.2 < since)) (List.filter (fun x => !seen.contains x.2.2) es) = p
    generalize List.filter (fun x => decide (since ≤ x.2.2)) (List.filter (fun x => !seen.contains x.2.2) es) = q
    rcases p with _ | ⟨a, _ | ⟨b, p⟩⟩ <;> rcases q with _ | ⟨c, q⟩ <;> rfl
theorem nextV_sh (r : Option (AV × AV × Nat)) : nextV (r.map fun e => (e.1.sh B, e.2.1.sh B, e.2.2)) = (nextV r).sh B := by cases r <;> rfl
theorem nextL_sh (i j since : Nat) (seen : List Nat) (ck : Nat) (r : Option (AV × AV × Nat)) : nextL (onto L0 M) (sf L0.length i) (sf L0.length j) since seen ck (r.map fun e => (e.1.sh L0.length, e.2.1.sh L0.length, e.2.2)) = onto L0 (nextL M i j since seen ck r) := by
  cases r with
  | none => rfl
  | some e => simp only [Option.map_some, nextL]; rw [← set_sh]; rfl
theorem mat_sh (es : List (AV × AV × Nat)) (ck : Nat) (seen : List Nat) (st : Nat) : mat (shE B es) ck seen st = (mat es ck seen st).map fun e => (e.1.sh B, e.2.1.sh B, e.2.2) := by
  unfold mat
  cases seen.getLast? with
  | none => rfl
  | some b =>
    simp only
    split
    · simp only [shE, List.find?_map, Function.comp_def]
    · rfl

/-- A result among other blocks. -/
def shR (L0 : List Blk) (r : Prop × AV × List Blk) : Prop × AV × List Blk := (r.1, r.2.1.sh L0.length, onto L0 r.2.2)

theorem app_sh (own sz bytes : Nat) (a b : AV) : app own sz bytes (onto L0 M) (a.sh L0.length) (b.sh L0.length) = (app own sz bytes M a b).map (shR L0) := by
  unfold app
  rw [elems_sh]
  cases he : elems M sz b with
  | none => rfl
  | some r =>
    obtain ⟨c0, new, n⟩ := r
    simp only [Option.map_some]
    cases a <;> simp only [AV.sh, AV.ren, Option.map_none]
    case sl l m k =>
      cases k <;> simp only [Option.map_none]
      have hf : AV.frzL (shL L0.length new) = shL L0.length (AV.frzL new) := frzL_sh new
      split
      · simp only [Option.map_some, shR, AV.sh, AV.ren, len_sh, ← push_sh, Blk.sh, hf, shL_app, shL_len]
      · split
        · split
          · simp only [Option.map_some, shR, AV.sh, AV.ren]
          · simp only [Option.map_some, shR, appOwn, AV.sh, AV.ren, len_sh, ← push_sh, Blk.sh, shL_app, shL_len]
        · simp only [Option.map_some, shR, AV.sh, AV.ren, hf, shL_app, shL_len]
    case gsl l m i s =>
      have hf : AV.frzL (shL L0.length new) = shL L0.length (AV.frzL new) := frzL_sh new
      rw [get_sh]
      cases hk : M[i]? with
      | none => rfl
      | some k =>
        cases k <;> simp only [Option.map_some, Option.map_none, Blk.sh]
        simp only [shR, AV.sh, AV.ren, hf, shL_app, allone_sh, ← set_sh, Blk.sh]
    case lsl i off m cp s =>
      rw [get_sh]
      cases hk : M[i]? with
      | none => rfl
      | some k =>
        cases k <;> simp only [Option.map_some, Option.map_none, Blk.sh]
        split
        · simp only [Option.map_some, shR, appOwn, AV.sh, AV.ren, len_sh, ← push_sh, ← set_sh, Blk.sh, shL_app, allone_sh, shL_len, shL_drop, shL_take]
        · rfl

theorem evalOp_sh {lo : LOp} (h : lo.okc = true) : evalOp (shT L0.length T) (onto L0 M) lo = (evalOp T M lo).map (shR L0) := by
  cases lo <;> simp only [LOp.okc, Bool.and_eq_true] at h <;> simp only [evalOp]
  case mv x => rw [evX_sh h]; cases evX T x <;> rfl
  case pick c a b =>
    rw [evX_sh h.1.1, evX_sh h.1.2, evX_sh h.2]
    cases evX T c with
    | none => rfl
    | some c => cases c <;> try rfl
                rename_i c; cases c
                · cases evX T b <;> rfl
                · cases evX T a <;> rfl
  case alloc z => simp only [Option.map_some, shR, AV.sh, AV.ren, len_sh, ← push_sh, Blk.sh, show shL L0.length z = z from renL_closed h]
  case box x =>
    rw [evX_sh h]
    cases evX T x with
    | none => rfl
    | some a =>
      simp only [Option.map_some, Option.bind_some, cells?_sh]
      cases a.cells? <;> simp only [Option.map_some, Option.map_none, shR, AV.sh, AV.ren, len_sh, ← push_sh, Blk.sh]
  case build z ps => rw [fillA_shz h.1 h.2]; cases fillA T z ps <;> rfl
  case bslice own sz n z ps =>
    rw [fillA_shz h.1 h.2]
    cases fillA T z ps with
    | none => rfl
    | some l => cases own <;> simp only [Option.map_some, shR, AV.sh, AV.ren, len_sh, ← push_sh, Blk.sh, Bool.false_eq_true, if_true, if_false]
  case load g sz x =>
    rw [evD_sh h]
    cases evD T x with
    | none => rfl
    | some a =>
      simp only [Option.map_some, Option.bind_some, row_sh]
      cases row M a with
      | none => rfl
      | some r =>
        obtain ⟨l, off⟩ := r
        cases g <;> simp only [Option.map_some, shR, AV.sh, AV.ren, shL_len, shL_drop, shL_take, shL_getD, Bool.false_eq_true, if_true, if_false]
  case store sz a x =>
    rw [evX_sh h.1, evX_sh h.2]
    cases evX T a with
    | none => rfl
    | some p =>
      cases evX T x with
      | none => cases p <;> rfl
      | some v =>
        simp only [Option.map_some, Option.bind_some, cells?_sh]
        cases hv : v.cells? with
        | none => cases p <;> rfl
        | some vals =>
          cases p <;> simp only [Option.map_some, Option.map_none, AV.sh, AV.ren]
          rw [get_sh]
          rename_i i off
          cases hk : M[i]? with
          | none => rfl
          | some k =>
            cases k <;> simp only [Option.map_some, Option.map_none, Blk.sh, shL_len, allone_sh]
            split
            · simp only [Option.map_some, shR, AV.sh, AV.ren, splice_sh, ← set_sh, Blk.sh]
            · rfl
  case nilchk x =>
    rw [evD_sh h]
    cases evD T x with
    | none => rfl
    | some a => cases a <;> rfl
  case bin op x y =>
    rw [evX_sh h.1, evX_sh h.2]
    cases evX T x with
    | none => rfl
    | some a =>
      cases evX T y with
      | none => rfl
      | some b =>
        simp only [Option.map_some, bin_sh]
        cases bin op a b <;> rfl
  case eqk neg k x y =>
    rw [evX_sh h.1, evX_sh h.2]
    cases evX T x with
    | none => rfl
    | some a =>
      cases evX T y with
      | none => rfl
      | some b =>
        simp only [Option.map_some, eqA_sh]
        cases eqA k a b <;> rfl
  case slnil neg x =>
    rw [evX_sh h]
    cases evX T x with
    | none => rfl
    | some a => cases a <;> simp only [Option.map_some, Option.map_none, AV.sh, AV.ren] <;> (try rfl) <;> (simp only [shR]; split <;> rfl)
  case un op x =>
    rw [evX_sh h]
    cases evX T x with
    | none => rfl
    | some a =>
      simp only [Option.map_some, un_sh]
      cases un op a <;> rfl
  case conv k x => rw [evX_sh h]; cases evX T x with
    | none => rfl
    | some a => cases a <;> rfl
  case sconv x => rw [evX_sh h]; cases evX T x with
    | none => rfl
    | some a => cases a <;> rfl
  case b2s x =>
    rw [evX_sh h]
    cases evX T x with
    | none => rfl
    | some a =>
      have key : (match elems (onto L0 M) 1 (a.sh L0.length) with | some (c, l, _) => some (c ∧ l.all isU8 = true, AV.str (l.map u8of), onto L0 M) | none => none) = Option.map (shR L0) (match elems M 1 a with | some (c, l, _) => some (c ∧ l.all isU8 = true, AV.str (l.map u8of), M) | none => none) := by
        rw [elems_sh]
        cases elems M 1 a with
        | none => rfl
        | some r => simp only [Option.map_some, shR, isU8_sh, u8of_sh, AV.sh, AV.ren]
      cases a <;> first | exact key | rfl
  case s2b x => rw [evX_sh h]; cases evX T x with
    | none => rfl
    | some a => cases a <;> simp only [Option.map_some, Option.map_none, AV.sh, AV.ren, shR] <;> (try rfl)
                rw [show AV.renL (sf L0.length) (u8s _) = _ from u8s_sh _]
  case s2bO x => rw [evX_sh h]; cases evX T x with
    | none => rfl
    | some a => cases a <;> simp only [Option.map_some, Option.map_none, AV.sh, AV.ren, shR, len_sh, ← push_sh, Blk.sh, u8s_sh] <;> (try rfl)
  case rangeS x => rw [evX_sh h]; cases evX T x with
    | none => rfl
    | some a => cases a <;> simp only [Option.map_some, Option.map_none, AV.sh, AV.ren, shR, len_sh, ← push_sh, Blk.sh] <;> (try rfl)
  case nextS x =>
    rw [evX_sh h]
    cases evX T x with
    | none => rfl
    | some a =>
      cases a <;> try rfl
      rename_i i off
      cases off with
      | succ o => rfl
      | zero =>
        simp only [Option.map_some, AV.sh, AV.ren]
        rw [get_sh]
        cases hk : M[i]? with
        | none => rfl
        | some k =>
          cases k <;> simp only [Option.map_some, Option.map_none, Blk.sh]
          split
          · simp only [Option.map_some, shR, ← set_sh, Blk.sh, AV.sh, AV.ren, AV.renL]
          · rfl
  case mkif t x => rw [evX_sh h]; cases evX T x <;> rfl
  case mkfn f caps => rw [evXs_sh h]; cases evXs T caps <;> rfl
  case mkslice sz bytes z l c =>
    rw [evX_sh h.1.2, evX_sh h.2]
    cases evX T l with
    | none => rfl
    | some a =>
      cases evX T c with
      | none => cases a <;> rfl
      | some b => cases a <;> (try rfl) <;> cases b <;> simp only [Option.map_some, Option.map_none, AV.sh, AV.ren, shR, len_sh, ← push_sh, Blk.sh, replC_closed h.1.1] <;> rfl
  case slS x lo hi =>
    rw [evX_sh h.1.1, bnd_sh h.1.2, bnd_sh h.2]
    cases evX T x with
    | none => rfl
    | some a => cases a <;> cases bnd T lo <;> cases bnd T hi <;> rfl
  case slV sz x lo hi mx =>
    rw [evX_sh h.1.1.1, bnd_sh h.1.1.2, bnd_sh h.1.2, bnd_sh h.2]
    cases evX T x with
    | none => rfl
    | some a =>
      cases bnd T lo with
      | none => cases a <;> rfl
      | some lo' =>
        cases bnd T hi with
        | none => cases a <;> rfl
        | some hi' =>
          cases bnd T mx with
          | none => cases a <;> cases hi' <;> rfl
          | some mx' => cases a <;> cases hi' <;> cases mx' <;> simp only [Option.map_some, Option.map_none, AV.sh, AV.ren, shR, shL_drop, shL_take] <;> (try rfl) <;> (try (split <;> rfl))
  case slA n sz x lo hi =>
    rw [evD_sh h.1.1, bnd_sh h.1.2, bnd_sh h.2]
    cases evD T x with
    | none => rfl
    | some a =>
      cases bnd T lo with
      | none => cases a <;> rfl
      | some lo' =>
        cases bnd T hi with
        | none => cases a <;> rfl
        | some hi' =>
          cases a <;> simp only [Option.map_some, Option.map_none, AV.sh, AV.ren, shR, shL_drop, shL_take, shL_len]
          rw [get_sh]
          rename_i i off
          cases hk : M[i]? with
          | none => rfl
          | some k => cases k <;> simp only [Option.map_some, Option.map_none, Blk.sh, shL_len, shR, AV.sh, AV.ren]
  case faddr o x => rw [evD_sh h]; cases evD T x with
    | none => rfl
    | some a => cases a <;> rfl
  case field g o sz x =>
    rw [evX_sh h]
    cases evX T x with
    | none => rfl
    | some a => cases a <;> cases g <;> simp only [Option.map_some, Option.map_none, AV.sh, AV.ren, shR, shL_drop, shL_take, shL_len, shL_getD, Bool.false_eq_true, if_true, if_false]
  case iaddr sz x i =>
    rw [evX_sh h.1, evX_sh h.2]
    cases evX T x with
    | none => rfl
    | some a =>
      cases evX T i with
      | none => cases a <;> rfl
      | some b => cases a <;> cases b <;> rfl
  case iaddrA n sz x i =>
    rw [evD_sh h.1, evX_sh h.2]
    cases evD T x with
    | none => rfl
    | some a =>
      cases evX T i with
      | none => cases a <;> rfl
      | some b => cases a <;> cases b <;> rfl
  case idxS x i =>
    rw [evX_sh h.1, evX_sh h.2]
    cases evX T x with
    | none => rfl
    | some a =>
      cases evX T i with
      | none => cases a <;> rfl
      | some b => cases a <;> cases b <;> rfl
  case extract x i =>
    rw [evX_sh h]
    cases evX T x with
    | none => rfl
    | some a =>
      cases a <;> simp only [Option.map_some, Option.map_none, AV.sh, AV.ren, shL_get]
      rename_i l
      cases l[i]? <;> rfl
  case len str x =>
    cases str <;> simp only [] <;> rw [evX_sh h] <;> (cases evX T x with
    | none => rfl
    | some a => cases a <;> rfl)
  case cap x =>
    rw [evX_sh h]
    cases evX T x with
    | none => rfl
    | some a =>
      cases a <;> try rfl
      case sl l n c => cases c <;> rfl
      case lsl i o n c s => cases c <;> rfl
  case bad => rfl
  case appz sz bytes z a n =>
    rw [evX_sh h.1.2, evX_sh h.2]
    cases evX T a with
    | none => rfl
    | some a =>
      cases evX T n with
      | none => cases a <;> first | rfl | (rename_i cp _; cases cp <;> rfl)
      | some b =>
        cases a <;> try rfl
        rename_i i off m cp s
        cases cp <;> try rfl
        cases b <;> try rfl
        simp only [Option.map_some, AV.sh, AV.ren]
        rw [get_sh]
        cases hk : M[i]? with
        | none => rfl
        | some k =>
          cases k <;> simp only [Option.map_some, Option.map_none, Blk.sh]
          split
          · simp only [Option.map_some, shR, AV.sh, AV.ren, len_sh, ← push_sh, Blk.sh, shL_len, shL_drop, shL_take, ← shL_app, replC_closed h.1.1]
          · rfl
  case app own sz bytes z a b =>
    rw [evX_sh h.1.2, evX_sh h.2]
    cases evX T a with
    | none => rfl
    | some a =>
      cases evX T b with
      | none => rfl
      | some b => exact app_sh own sz bytes a b
  case copy sz a b =>
    rw [evX_sh h.1, evX_sh h.2]
    cases evX T b with
    | none => cases evX T a with
      | none => rfl
      | some a => cases a <;> rfl
    | some b =>
      simp only [Option.map_some, Option.bind_some, elems_sh]
      cases evX T a with
      | none => rfl
      | some a =>
        cases elems M sz b with
        | none => cases a <;> rfl
        | some r =>
          obtain ⟨c0, new, n⟩ := r
          cases a <;> simp only [Option.map_some, Option.map_none, AV.sh, AV.ren]
          case nilsl => rfl
          case lsl i off m cp s =>
            rw [get_sh]
            cases hk : M[i]? with
            | none => rfl
            | some k =>
              cases k <;> simp only [Option.map_some, Option.map_none, Blk.sh]
              split
              · simp only [Option.map_some, shR, AV.sh, AV.ren, shL_take, allone_sh, splice_sh, ← set_sh, Blk.sh, shL_len]
              · rfl
  case clear sz z x =>
    rw [evX_sh h.2]
    cases evX T x with
    | none => rfl
    | some a =>
      cases a <;> try rfl
      rename_i i off m cp s
      simp only [Option.map_some, AV.sh, AV.ren]
      rw [get_sh]
      cases hk : M[i]? with
      | none => rfl
      | some k =>
        cases k <;> simp only [Option.map_some, Option.map_none, Blk.sh]
        split
        · rename_i l _
          have := splice_sh (B := L0.length) l (replC z m) off
          rw [replC_closed h.1] at this
          simp only [Option.map_some, shR, AV.sh, AV.ren, AV.renL, this, ← set_sh, Blk.sh, shL_len]
        · rfl
  case minmax mx xs =>
    rcases xs with _ | ⟨x, _ | ⟨y, _ | ⟨z, l⟩⟩⟩
    · rfl
    · rfl
    · simp only [opdsOk, Bool.and_eq_true] at h
      simp only [evX_sh h.1, evX_sh h.2.1]
      cases evX T x with
      | none => rfl
      | some a =>
        cases evX T y with
        | none => cases a <;> rfl
        | some b => cases a <;> cases b <;> rfl
    · rfl
  case call f xs => rfl
  case callv f xs => rfl
  case mkmap => simp only [Option.map_some, shR, AV.sh, AV.ren, len_sh, ← push_sh, Blk.sh, List.map_nil]
  case mget kd ok z m k =>
    rw [evX_sh h.1.2, evX_sh h.2]
    have hz : AV.ren (sf L0.length) z = z := ren_closed h.1.1
    cases evX T m with
    | none => rfl
    | some a =>
      cases evX T k with
      | none => cases a <;> rfl
      | some kv =>
        cases a <;> try rfl
        · simp only [Option.map_some, AV.sh, AV.ren]
          rw [show keyFit kd (AV.ren (sf L0.length) kv) = keyFit kd kv from keyFit_sh kd kv]
          split
          · cases ok <;> simp only [Option.map_some, shR, AV.sh, AV.ren, AV.renL, hz, Bool.false_eq_true, if_true, if_false]
          · rfl
        · rename_i i
          simp only [Option.map_some, AV.sh, AV.ren]
          rw [get_sh]
          cases hk : M[i]? with
          | none => rfl
          | some b =>
            cases b <;> simp only [Option.map_some, Option.map_none, Blk.sh]
            rename_i es ck
            rw [show keyFit kd (AV.ren (sf L0.length) kv) = keyFit kd kv from keyFit_sh kd kv]
            split
            · rw [show mfind (AV.ren (sf L0.length) kv) (es.map fun e => (AV.ren (sf L0.length) e.1, AV.ren (sf L0.length) e.2.1, e.2.2)) 0 = _ from mfind_sh (B := L0.length) kv es 0]
              cases mfind kv es 0 with
              | none => rfl
              | some r =>
                cases r with
                | none => cases ok <;> simp only [Option.map_some, Option.map_none, shR, AV.sh, AV.ren, AV.renL, hz, Bool.false_eq_true, if_true, if_false]
                | some p => cases ok <;> simp only [Option.map_some, Option.map_none, shR, AV.sh, AV.ren, AV.renL, hz, Bool.false_eq_true, if_true, if_false]
            · rfl
  case mdel kd m k =>
    rw [evX_sh h.1, evX_sh h.2]
    cases evX T m with
    | none => rfl
    | some a =>
      cases evX T k with
      | none => cases a <;> rfl
      | some kv =>
        cases a <;> try rfl
        · simp only [Option.map_some, AV.sh, AV.ren]
          rw [show keyFit kd (AV.ren (sf L0.length) kv) = keyFit kd kv from keyFit_sh kd kv]
          split
          · simp only [Option.map_some, shR, AV.sh, AV.ren, AV.renL]
          · rfl
        · rename_i i
          simp only [Option.map_some, AV.sh, AV.ren]
          rw [get_sh]
          cases hk : M[i]? with
          | none => rfl
          | some b =>
            cases b <;> simp only [Option.map_some, Option.map_none, Blk.sh]
            rename_i es ck
            rw [show keyFit kd (AV.ren (sf L0.length) kv) = keyFit kd kv from keyFit_sh kd kv]
            split
            · rw [show mfind (AV.ren (sf L0.length) kv) (es.map fun e => (AV.ren (sf L0.length) e.1, AV.ren (sf L0.length) e.2.1, e.2.2)) 0 = _ from mfind_sh (B := L0.length) kv es 0]
              cases mfind kv es 0 with
              | none => rfl
              | some r =>
                cases r with
                | none => simp only [Option.map_some, Option.map_none, shR, ← set_sh, Blk.sh, AV.sh, AV.ren, AV.renL]
                | some p => simp only [Option.map_some, Option.map_none, shR, ← set_sh, Blk.sh, AV.sh, AV.ren, AV.renL, eraseIdx_map']
            · rfl
  case mset kd m k v =>
    rw [evX_sh h.1.1, evX_sh h.1.2, evX_sh h.2]
    cases evX T m with
    | none => rfl
    | some a =>
      cases evX T k with
      | none => cases a <;> rfl
      | some kv =>
        cases evX T v with
        | none => cases a <;> rfl
        | some x =>
          cases a <;> try rfl
          rename_i i
          simp only [Option.map_some, AV.sh, AV.ren]
          rw [get_sh]
          cases hk : M[i]? with
          | none => rfl
          | some b =>
            cases b <;> simp only [Option.map_some, Option.map_none, Blk.sh]
            rename_i es ck
            rw [show keyFit kd (AV.ren (sf L0.length) kv) = keyFit kd kv from keyFit_sh kd kv]
            split
            · rw [show mfind (AV.ren (sf L0.length) kv) (es.map fun e => (AV.ren (sf L0.length) e.1, AV.ren (sf L0.length) e.2.1, e.2.2)) 0 = _ from mfind_sh (B := L0.length) kv es 0]
              cases mfind kv es 0 with
              | none => rfl
              | some r =>
                cases r with
                | none => simp only [Option.map_some, Option.map_none, shR, ← set_sh, Blk.sh, AV.sh, AV.ren, List.map_append, List.map_cons, List.map_nil]
                | some p =>
                  have e := mput_sh (B := L0.length) kv x es p.1
                  simp only [shE, AV.sh] at e
                  simp only [Option.map_some, shR, ← set_sh, Blk.sh, AV.sh, AV.ren, e]
            · rfl
  case mrange x =>
    rw [evX_sh h]
    cases evX T x with
    | none => rfl
    | some a =>
      cases a <;> try rfl
      · simp only [Option.map_some, shR, AV.sh, AV.ren, len_sh, ← push_sh, Blk.sh, Option.map_none]
      · rename_i i
        simp only [Option.map_some, AV.sh, AV.ren]
        rw [get_sh]
        cases hk : M[i]? with
        | none => rfl
        | some b => cases b <;> simp only [Option.map_some, Option.map_none, Blk.sh, shR, AV.sh, AV.ren, len_sh, ← push_sh]
  case mnext x =>
    rw [evX_sh h]
    cases evX T x with
    | none => rfl
    | some a =>
      cases a <;> try rfl
      rename_i i off
      cases off with
      | succ o => rfl
      | zero =>
        simp only [Option.map_some, AV.sh, AV.ren]
        rw [get_sh]
        cases hk : M[i]? with
        | none => rfl
        | some b =>
          cases b <;> simp only [Option.map_some, Option.map_none, Blk.sh]
          rename_i m since seen last
          cases m with
          | none => rfl
          | some j =>
            simp only [Option.map_some]
            rw [get_sh]
            cases hj : M[j]? with
            | none => rfl
            | some b =>
              cases b <;> simp only [Option.map_some, Option.map_none, Blk.sh]
              rename_i es ck
              rw [show mstep (es.map fun e => (AV.sh L0.length e.1, AV.sh L0.length e.2.1, e.2.2)) since seen last = _ from mstep_sh (B := L0.length) es since seen last]
              cases mstep es since seen last with
              | none => rfl
              | some r => simp only [Option.map_some, shR, nextV_sh, nextL_sh]
  case mentry x =>
    rw [evX_sh h]
    cases evX T x with
    | none => rfl
    | some a =>
      cases a <;> try rfl
      rename_i i off
      cases off with
      | succ o => rfl
      | zero =>
        simp only [Option.map_some, AV.sh, AV.ren]
        rw [get_sh]
        cases hk : M[i]? with
        | none => rfl
        | some b =>
          cases b <;> simp only [Option.map_some, Option.map_none, Blk.sh]
          rename_i m since seen last
          cases m with
          | none => rfl
          | some j =>
            simp only [Option.map_some]
            rw [get_sh]
            cases hj : M[j]? with
            | none => rfl
            | some b =>
              cases b <;> simp only [Option.map_some, Option.map_none, Blk.sh]
              rename_i es ck
              rw [show mat (es.map fun e => (AV.sh L0.length e.1, AV.sh L0.length e.2.1, e.2.2)) ck seen last = _ from mat_sh (B := L0.length) es ck seen last]
              cases mat es ck seen last <;> rfl
  case mlen m =>
    rw [evX_sh h]
    cases evX T m with
    | none => rfl
    | some a =>
      cases a <;> try rfl
      rename_i i
      simp only [Option.map_some, AV.sh, AV.ren]
      rw [get_sh]
      cases hk : M[i]? with
      | none => rfl
      | some b => cases b <;> simp [Blk.sh, shR, AV.sh, AV.ren]
end

end Go.Proofs.YtpednpndahgleaaGreatDoor.Av
