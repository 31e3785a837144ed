/- Regions whose guarded groups ('&&', '||') are taken as one: no program in sight. -/
import Derived.Test.YtpednpndahgleaaGreatDoorAvS
set_option linter.unusedSimpArgs false
set_option linter.unusedVariables false
namespace Go.Proofs.YtpednpndahgleaaGreatDoor.Av
open Go

/-- An operation; or a group that runs if temporary t is b, with what it comes to: x if it ran, else not b. -/
inductive SOp where
  | op (o : LOper)
  | grp (g : Option (Nat × Bool)) (t : Nat) (b : Bool) (body : List SOp) (d : Nat) (x : Opd)
  deriving Inhabited

def pickOf (g : Option (Nat × Bool)) (t : Nat) (b : Bool) (d : Nat) (x : Opd) : LOper :=
  ⟨some d, .pick (.tmp t) (if b then x else .av (.bool true)) (if b then .av (.bool false) else x), g⟩

mutual
def SOp.flat : SOp → List LOper
  | .op o => [o]
  | .grp g t b body d x => SOp.flatL body ++ [pickOf g t b d x]
def SOp.flatL : List SOp → List LOper
  | [] => []
  | s :: r => SOp.flat s ++ SOp.flatL r
end

def dstsOf (l : List LOper) : List Nat := l.filterMap (·.dst)
/-- What is put by guarded operations. -/
def gds : List SOp → List Nat
  | [] => []
  | .op _ :: r => gds r
  | .grp _ _ _ body _ _ :: r => dstsOf (SOp.flatL body) ++ gds r
def outsOf : SOp → List Nat
  | .op o => o.dst.toList
  | .grp _ _ _ _ d _ => [d]

mutual
/-- A body under a guard: each operation bears it; a group in it is guarded by what was put in it. -/
def okO (g : Nat × Bool) (seen : List Nat) : SOp → Bool
  | .op o => decide (o.guard = some g)
  | .grp g' t b body d x => decide (g' = some g) && seen.contains t && !(dstsOf (SOp.flatL body)).contains t && !(dstsOf (SOp.flatL body)).contains g.1 && okB (t, b) [] body
def okB (g : Nat × Bool) (seen : List Nat) : List SOp → Bool
  | [] => true
  | s :: r => okO g seen s && (outsOf s).all (fun d => !(gds r).contains d && d != g.1) && okB g (outsOf s ++ seen) r
end
def okS : List SOp → Bool
  | [] => true
  | .op o :: r => o.dst.toList.all (fun d => !(gds r).contains d) && okS r
  | .grp g t b body d x :: r => decide (g = none) && !(dstsOf (SOp.flatL body)).contains t && okB (t, b) [] body && !(gds r).contains d && okS r

def mrg (b p q : Bool) : Bool := if b then p && q else p || q
theorem mrg_t (p q : Bool) : mrg true p q = (p && q) := rfl
theorem mrg_f (p q : Bool) : mrg false p q = (p || q) := rfl

/-- A call of a function that leaves the blocks as they are. -/
def CalK (P : Program) (f : FuncId) (args : List AV) (L : List Blk) (k : AV → Prop) : Prop := ∃ v, ACall P f args L (fun av L' => av = v ∧ L' = L) ∧ k v
theorem CalK_mk {P : Program} {f : FuncId} {args : List AV} {L : List Blk} {k : AV → Prop} {v : AV} (h : ACall P f args L (fun av L' => av = v ∧ L' = L)) (hk : k v) : CalK P f args L k := ⟨v, h, hk⟩

def IsB : Option AV → Bool → Prop := fun o q => o = some (.bool q)
theorem IsB_mk {q : Bool} : IsB (some (.bool q)) q := rfl
def IsX (x : Opd) (q : Bool) (T : Tm) : Prop := IsB (evX T x) q

def GKon (k : Tm → Prop) (d : Option Nat) (T : Tm) (v : AV) : Prop := k (putT d v T)
def GCal (P : Program) (f : FuncId) (L : List Blk) (k : AV → Prop) : Option (List AV) → Prop
  | some args => CalK P f args L k
  | none => False
def GCalv (P : Program) (L : List Blk) (k : AV → Prop) : Option AV → Option (List AV) → Prop
  | some (.func g caps), some args => CalK P g (args ++ caps) L k
  | _, _ => False
def GRes (L : List Blk) (k : AV → Prop) : Option (Prop × AV × List Blk) → Prop
  | some (c, av, L') => c ∧ L' = L ∧ k av
  | none => False
def GOp (P : Program) (L : List Blk) (o : LOper) (k : Tm → Prop) (T : Tm) : Prop :=
  match o.op with
  | .call f xs => GCal P f L (GKon k o.dst T) (evXs T xs)
  | .callv f xs => GCalv P L (GKon k o.dst T) (evX T f) (evXs T xs)
  | lo => GRes L (GKon k o.dst T) (evalOp T L lo)

mutual
def GL (P : Program) (L : List Blk) : List SOp → (Tm → Prop) → Tm → Prop
  | [], k, T => k T
  | s :: r, k, T => GO P L s (GL P L r k) T
def GO (P : Program) (L : List Blk) : SOp → (Tm → Prop) → Tm → Prop
  | .op o, k, T => GOp P L o k T
  | .grp _ t b body d x, k, T => match look T t with
    | some (.bool p) => ∃ q, (p = b → GL P L body (IsX x q) T) ∧ k ((d, .bool (mrg b p q)) :: T)
    | _ => False
end
/-- What comes of a group behind its test. -/
def GQ (P : Program) (L : List Blk) (b : Bool) (body : List SOp) (d : Nat) (x : Opd) (k : Tm → Prop) (T : Tm) (p : Bool) : Prop :=
  ∃ q, (p = b → GL P L body (IsX x q) T) ∧ k ((d, .bool (mrg b p q)) :: T)
def GG (P : Program) (L : List Blk) (b : Bool) (body : List SOp) (d : Nat) (x : Opd) (k : Tm → Prop) (T : Tm) : Option AV → Prop
  | some (.bool p) => GQ P L b body d x k T p
  | _ => False

theorem GL_nil {P : Program} {L : List Blk} {k : Tm → Prop} {T : Tm} : GL P L [] k T = k T := by rw [GL]
theorem GL_op {P : Program} {L : List Blk} {o : LOper} {r : List SOp} {k : Tm → Prop} {T : Tm} : GL P L (.op o :: r) k T = GOp P L o (GL P L r k) T := by rw [GL, GO]
theorem GL_grp {P : Program} {L : List Blk} {g : Option (Nat × Bool)} {t d : Nat} {b : Bool} {body r : List SOp} {x : Opd} {k : Tm → Prop} {T : Tm} : GL P L (.grp g t b body d x :: r) k T = GG P L b body d x (GL P L r k) T (look T t) := by
  rw [GL, GO]; rfl
theorem GG_some {P : Program} {L : List Blk} {d : Nat} {b p : Bool} {body : List SOp} {x : Opd} {k : Tm → Prop} {T : Tm} : GG P L b body d x k T (some (.bool p)) = GQ P L b body d x k T p := rfl
theorem GQ_ft {P : Program} {L : List Blk} {d : Nat} {body : List SOp} {x : Opd} {k : Tm → Prop} {T : Tm} : GQ P L true body d x k T false = k ((d, .bool false) :: T) := by simp [GQ, mrg]
theorem GQ_tf {P : Program} {L : List Blk} {d : Nat} {body : List SOp} {x : Opd} {k : Tm → Prop} {T : Tm} : GQ P L false body d x k T true = k ((d, .bool true) :: T) := by simp [GQ, mrg]

/-- A region. -/
def SL (P : Program) : List SOp → (Tm → List Blk → Prop) → Tm → List Blk → Prop
  | [], K, T, L => K T L
  | .op o :: r, K, T, L => match o.guard with
    | none => AOp P o (SL P r K) T L
    | some (t, b) => Grd P o (SL P r K) b T L (look T t)
  | .grp _ t b body d x :: r, K, T, L => GG P L b body d x (fun T' => SL P r K T' L) T (look T t)
def SK (P : Program) (r : List SOp) (K : Tm → List Blk → Prop) (L : List Blk) (T : Tm) : Prop := SL P r K T L
theorem SK_eq {P : Program} {r : List SOp} {K : Tm → List Blk → Prop} {L : List Blk} {T : Tm} : SK P r K L T = SL P r K T L := rfl
theorem SL_nil {P : Program} {K : Tm → List Blk → Prop} {L : List Blk} {T : Tm} : SL P [] K T L = K T L := rfl
theorem SL_op {P : Program} {d : Option Nat} {op : LOp} {r : List SOp} {K : Tm → List Blk → Prop} {L : List Blk} {T : Tm} : SL P (.op ⟨d, op, none⟩ :: r) K T L = AOp P ⟨d, op, none⟩ (SL P r K) T L := rfl
theorem SL_opg {P : Program} {d : Option Nat} {op : LOp} {t : Nat} {b : Bool} {r : List SOp} {K : Tm → List Blk → Prop} {L : List Blk} {T : Tm} : SL P (.op ⟨d, op, some (t, b)⟩ :: r) K T L = Grd P ⟨d, op, some (t, b)⟩ (SL P r K) b T L (look T t) := rfl
theorem SL_grp {P : Program} {g : Option (Nat × Bool)} {t d : Nat} {b : Bool} {body r : List SOp} {x : Opd} {K : Tm → List Blk → Prop} {L : List Blk} {T : Tm} : SL P (.grp g t b body d x :: r) K T L = GG P L b body d x (SK P r K L) T (look T t) := rfl

/-- Entries that are kept, of the last ones that were put. -/
def sel : List Bool → Tm → Tm
  | [], T => T
  | true :: m, x :: T => x :: sel m T
  | false :: m, _ :: T => sel m T
  | _ :: _, [] => []
theorem sel_nil {T : Tm} : sel [] T = T := by cases T <;> rfl
theorem sel_t {m : List Bool} {x : Nat × AV} {T : Tm} : sel (true :: m) (x :: T) = x :: sel m T := rfl
theorem sel_f {m : List Bool} {x : Nat × AV} {T : Tm} : sel (false :: m) (x :: T) = sel m T := rfl

section
variable {P : Program} {w0 : World} {S0 : Nat → Prop} {N : Nat}

def Fr (ds : List Nat) (T : Tm) : Prop := ∀ d ∈ ds, look T d = none

theorem look_put {d : Option Nat} {v : AV} {T : Tm} {t : Nat} (h : d ≠ some t) : look (putT d v T) t = look T t := by
  cases d with
  | none => rfl
  | some d => simp only [putT, look]; rw [if_neg (fun e => h (by rw [e]))]

theorem lowOps_app {own : Nat → Nat} {ops : Array Oper} : ∀ {l m : List LOper} {is : List Nat}, lowOps P N own ops is = some (l ++ m) → ∃ js ks, is = js ++ ks ∧ lowOps P N own ops js = some l ∧ lowOps P N own ops ks = some m
  | [], m, is, h => ⟨[], is, rfl, rfl, h⟩
  | o :: l, m, is, h => by
    cases is with
    | nil => simp [lowOps] at h
    | cons i is =>
      simp only [lowOps] at h
      split at h <;> try cases h
      rename_i o' m' h1 h2
      obtain ⟨js, ks, rfl, h3, h4⟩ := lowOps_app (l := l) (m := m) h2
      refine ⟨i :: js, ks, rfl, ?_, h4⟩
      simp only [lowOps, h1, h3]

theorem lowOps_one {own : Nat → Nat} {ops : Array Oper} {o : LOper} {is : List Nat} (h : lowOps P N own ops is = some [o]) : ∃ i, is = [i] ∧ lowOper P N own ops i = some o := by
  cases is with
  | nil => simp [lowOps] at h
  | cons i is =>
    simp only [lowOps] at h
    split at h <;> try cases h
    rename_i o' m' h1 h2
    cases is with
    | nil => exact ⟨i, rfl, h1⟩
    | cons j is =>
      simp only [lowOps] at h2
      split at h2 <;> cases h2

/-- One operation that runs. -/
theorem one_run {own : Nat → Nat} {ops : Array Oper} {K : Tm → List Blk → Prop} {Q : Exit → Act → World → Prop} {i : Nat} {lo : LOper} {rest : List Nat} (hl : lowOper P N own ops i = some lo)
    {T : Tm} {L : List Blk} {E : Env} {a : Act} {w : World} (hst : St w0 S0 N E T L a w) (hg : lo.guard = none ∨ ∃ t b, lo.guard = some (t, b) ∧ look T t = some (.bool b))
    (h : AOp P lo K T L) (hK : ∀ E' T' L' a' w', E.le E' → K T' L' → St w0 S0 N E' T' L' a' w' → wpOps P ops Q rest a' w') : wpOps P ops Q (i :: rest) a w := by
  obtain ⟨o, ho, hop, hdst, hd, hg'⟩ := lowOper_spec hl
  obtain ⟨ld, lop, lg⟩ := lo
  simp only at hop hdst hg' hg
  subst hdst
  simp only [wpOps, ho]
  have hw : Region.wanted o (yielded ops a.tmps) = true := by
    rcases hg' with ⟨g1, g2⟩ | ⟨j, b, t, g1, g2, g3, g4⟩
    · simp [Region.wanted, g1]
    · subst g4
      rcases hg with hg | ⟨t', b', e, hx⟩
      · cases hg
      · cases e
        have hy := yielded_look (E := E) (T := T) (a := a) (ops := ops) hst.2.1 g2 (by rw [hst.2.2.1]; exact g3)
        simp [Region.wanted, g1, hy.1 b hx]
  rw [if_pos hw]
  exact .inl (aop_sound hop hd hst h hK)

/-- One operation that is passed by. -/
theorem one_skip {own : Nat → Nat} {ops : Array Oper} {Q : Exit → Act → World → Prop} {i : Nat} {lo : LOper} {rest : List Nat} (hl : lowOper P N own ops i = some lo)
    {T : Tm} {L : List Blk} {E : Env} {a : Act} {w : World} (hst : St w0 S0 N E T L a w) {t : Nat} {b : Bool} (hg : lo.guard = some (t, b)) (hx : look T t = some (.bool (!b)) ∨ look T t = some (.tup []))
    (hK : ∀ a', St w0 S0 N E (putT lo.dst (.tup []) T) L a' w → wpOps P ops Q rest a' w) : wpOps P ops Q (i :: rest) a w := by
  obtain ⟨o, ho, hop, hdst, hd, hg'⟩ := lowOper_spec hl
  obtain ⟨ld, lop, lg⟩ := lo
  simp only at hop hdst hg' hg hK
  subst hdst
  simp only [wpOps, ho]
  have hw : Region.wanted o (yielded ops a.tmps) = false := by
    rcases hg' with ⟨g1, g2⟩ | ⟨j, b', t', g1, g2, g3, g4⟩
    · rw [g2] at hg; cases hg
    · rw [g4] at hg; cases hg
      have hy := yielded_look (E := E) (T := T) (a := a) (ops := ops) hst.2.1 g2 (by rw [hst.2.2.1]; exact g3)
      rcases hx with hx | hx
      · simp [Region.wanted, g1, hy.1 _ hx]
      · simp [Region.wanted, g1, hy.2 hx]
  rw [if_neg (by simp [hw])]
  exact hK _ (st_skip hst hd)

/-- What T knew, T' knows, but for what was put. -/
def Ext (ds : List Nat) (T T' : Tm) : Prop := ∀ t v, t ∉ ds → look T t = some v → look T' t = some v

mutual
theorem sk_one {own : Nat → Nat} {ops : Array Oper} {Q : Exit → Act → World → Prop} {L : List Blk} {E : Env} {w : World} (s : SOp) {g : Nat × Bool} {seen : List Nat} {is rest : List Nat} {T : Tm} {a : Act} (hok : okO g seen s = true) (hl : lowOps P N own ops is = some s.flat)
    (hst : St w0 S0 N E T L a w) (hx : look T g.1 = some (.bool (!g.2)) ∨ look T g.1 = some (.tup [])) (hseen : ∀ d ∈ seen, look T d = some (.tup []))
    (hK : ∀ T' a', Ext (dstsOf s.flat) T T' → (∀ d, look T d = some (.tup []) → look T' d = some (.tup [])) → (∀ d ∈ outsOf s, look T' d = some (.tup [])) → St w0 S0 N E T' L a' w → wpOps P ops Q rest a' w) : wpOps P ops Q (is ++ rest) a w := by
  have tup : ∀ (d' : Option Nat) (T : Tm) (d : Nat), look T d = some (.tup []) → look (putT d' (.tup []) T) d = some (.tup []) := fun d' T d h => by
    cases d' with
    | none => exact h
    | some d' =>
      simp only [putT, look]
      split
      · rfl
      · exact h
  cases s with
  | op o =>
    simp only [SOp.flat] at hl hK
    obtain ⟨i, rfl, h1⟩ := lowOps_one hl
    simp only [okO, decide_eq_true_eq] at hok
    refine one_skip h1 hst (t := g.1) (b := g.2) hok hx fun a' ha' => hK _ a' (fun t v ht hv => ?_) (tup _ _) (fun d hd => ?_) ha'
    · rw [look_put (fun e => ht (by simp [dstsOf, e]))]; exact hv
    · simp only [outsOf, Option.mem_toList] at hd
      rw [hd]; simp [putT, look]
  | grp g' t b body d x =>
    simp only [okO, Bool.and_eq_true, decide_eq_true_eq, List.contains_iff_mem, Bool.not_eq_true', List.contains_eq_mem, decide_eq_false_iff_not] at hok
    obtain ⟨⟨⟨⟨hg', ht⟩, htb⟩, hgb⟩, hb⟩ := hok
    simp only [SOp.flat] at hl hK
    obtain ⟨js, ks, rfl, h1, h2⟩ := lowOps_app hl
    obtain ⟨i, rfl, h3⟩ := lowOps_one h2
    rw [List.append_assoc]
    refine sk_list body hb h1 hst (.inr (hseen t (by simpa using ht))) (by simp) fun T' a' hext htup hst' => ?_
    refine one_skip h3 hst' (t := g.1) (b := g.2) (by simp [pickOf, hg']) ?_ fun a'' hst'' => hK _ a'' (fun t v ht hv => ?_) (fun d hd => tup _ _ _ (htup d hd)) (fun d hd => ?_) hst''
    · exact hx.imp (fun h => hext _ _ hgb h) (fun h => htup _ h)
    · rw [look_put (fun e => ht (by simp only [pickOf] at e; simp [dstsOf, pickOf, e]))]
      exact hext t v (fun hm => ht (by simp only [dstsOf, List.filterMap_append, List.mem_append]; exact .inl hm)) hv
    · simp only [outsOf, List.mem_singleton] at hd
      subst hd; simp [pickOf, putT, look]
theorem sk_list {own : Nat → Nat} {ops : Array Oper} {Q : Exit → Act → World → Prop} {L : List Blk} {E : Env} {w : World} (l : List SOp) {g : Nat × Bool} {seen : List Nat} {is rest : List Nat} {T : Tm} {a : Act} (hok : okB g seen l = true) (hl : lowOps P N own ops is = some (SOp.flatL l))
    (hst : St w0 S0 N E T L a w) (hx : look T g.1 = some (.bool (!g.2)) ∨ look T g.1 = some (.tup [])) (hseen : ∀ d ∈ seen, look T d = some (.tup []))
    (hK : ∀ T' a', Ext (dstsOf (SOp.flatL l)) T T' → (∀ d, look T d = some (.tup []) → look T' d = some (.tup [])) → St w0 S0 N E T' L a' w → wpOps P ops Q rest a' w) : wpOps P ops Q (is ++ rest) a w := by
  cases l with
  | nil =>
    simp only [SOp.flatL] at hl hK
    have : is = [] := by
      cases is with
      | nil => rfl
      | cons i is =>
        simp only [lowOps] at hl
        split at hl <;> cases hl
    subst this
    exact hK T a (fun _ _ _ h => h) (fun _ h => h) hst
  | cons s r =>
    simp only [okB, Bool.and_eq_true, List.all_eq_true, Bool.not_eq_true', bne_iff_ne] at hok
    obtain ⟨⟨h1, h2⟩, h3⟩ := hok
    simp only [SOp.flatL] at hl hK
    obtain ⟨js, ks, rfl, h4, h5⟩ := lowOps_app hl
    rw [List.append_assoc]
    refine sk_one s h1 h4 hst hx hseen fun T' a' e1 e2 e3 hst' => ?_
    have hx' : look T' g.1 = some (.bool (!g.2)) ∨ look T' g.1 = some (.tup []) := by
      by_cases hm : g.1 ∈ dstsOf s.flat
      · cases s with
        | op o =>
          simp only [dstsOf, SOp.flat, List.filterMap_cons, List.filterMap_nil] at hm
          cases hd : o.dst with
          | none => simp [hd] at hm
          | some d =>
            simp [hd] at hm
            exact absurd hm.symm (h2 d (by simp [outsOf, hd])).2
        | grp g' t b body d x =>
          simp only [okO, Bool.and_eq_true, Bool.not_eq_true', List.contains_eq_mem, decide_eq_false_iff_not] at h1
          simp only [dstsOf, SOp.flat, List.filterMap_append, List.mem_append] at hm
          rcases hm with hm | hm
          · exact absurd hm h1.1.2
          · simp [pickOf] at hm
            exact absurd hm.symm (h2 d (by simp [outsOf])).2
      · exact hx.imp (e1 _ _ hm) (e2 _)
    refine sk_list r h3 h5 hst' hx' (fun d hd => ?_) fun T'' a'' f1 f2 hst'' => hK T'' a'' (fun t v ht hv => ?_) (fun d hd => f2 d (e2 d hd)) hst''
    · rcases List.mem_append.1 hd with hd | hd
      · exact e3 d hd
      · exact e2 d (hseen d hd)
    · simp only [dstsOf, List.filterMap_append, List.mem_append, not_or] at ht
      exact f1 t v ht.2 (e1 t v ht.1 hv)
end

theorem Fr.put {ds : List Nat} {T : Tm} {d : Option Nat} {v : AV} (h : Fr ds T) (hd : ∀ k, d = some k → k ∉ ds) : Fr ds (putT d v T) := fun k hk => by
  rw [look_put (fun e => hd k e hk)]; exact h k hk

mutual
theorem gds_sub1 (s : SOp) : ∀ d ∈ gds [s], d ∈ dstsOf s.flat := by
  cases s with
  | op o => simp [gds]
  | grp g t b body d x =>
    intro u hu
    simp only [gds, List.append_nil] at hu
    simp only [SOp.flat, dstsOf, List.filterMap_append, List.mem_append]
    exact .inl hu
end
theorem gds_cons (s : SOp) (r : List SOp) : gds (s :: r) = gds [s] ++ gds r := by cases s <;> simp [gds]
theorem gds_sub : ∀ (l : List SOp), ∀ d ∈ gds l, d ∈ dstsOf (SOp.flatL l)
  | [], d, h => by simp [gds] at h
  | s :: r, d, h => by
    rw [gds_cons, List.mem_append] at h
    simp only [SOp.flatL, dstsOf, List.filterMap_append, List.mem_append]
    exact h.imp (gds_sub1 s d) (gds_sub r d)
theorem outs_sub (s : SOp) : ∀ d ∈ outsOf s, d ∈ dstsOf s.flat := by
  cases s with
  | op o =>
    intro d hd
    simp only [outsOf, Option.mem_toList] at hd
    simp [SOp.flat, dstsOf, hd]
  | grp g t b body d x =>
    intro u hu
    simp only [outsOf, List.mem_singleton] at hu
    subst hu
    simp [SOp.flat, dstsOf, pickOf]

mutual
/-- A group's body that runs. -/
theorem gl_one {own : Nat → Nat} {ops : Array Oper} {Q : Exit → Act → World → Prop} {L : List Blk} (s : SOp) {g : Nat × Bool} {seen : List Nat} {is rest : List Nat} {T : Tm} {a : Act} {E : Env} {w : World} {k : Tm → Prop} (hok : okO g seen s = true) (hl : lowOps P N own ops is = some s.flat)
    (hst : St w0 S0 N E T L a w) (hx : look T g.1 = some (.bool g.2)) (hfr : ∀ d ∈ gds [s], look T d = none) (h : GO P L s k T)
    (hK : ∀ E' T' a' w', E.le E' → k T' → Ext (outsOf s) T T' → (∀ d, d ∉ outsOf s → look T d = none → look T' d = none) → St w0 S0 N E' T' L a' w' → wpOps P ops Q rest a' w') : wpOps P ops Q (is ++ rest) a w := by
  cases s with
  | op o =>
    simp only [SOp.flat] at hl
    obtain ⟨i, rfl, h1⟩ := lowOps_one hl
    simp only [okO, decide_eq_true_eq] at hok
    simp only [GO] at h
    have ext : ∀ v, Ext (outsOf (.op o)) T (putT o.dst v T) := fun v t x ht hv => by
      rw [look_put (fun e => ht (by simp [outsOf, e]))]; exact hv
    have fre : ∀ v d, d ∉ outsOf (.op o) → look T d = none → look (putT o.dst v T) d = none := fun v d hd hn => by
      rw [look_put (fun e => hd (by simp [outsOf, e]))]; exact hn
    have hA : AOp P o (fun T' L' => L' = L ∧ ∃ v, T' = putT o.dst v T ∧ k T') T L := by
      obtain ⟨d, op, gd⟩ := o
      have call : ∀ {f : FuncId} {args : List AV}, CalK P f args L (GKon k d T) → ACall P f args L (Kon (fun T' L' => L' = L ∧ ∃ v, T' = putT d v T ∧ k T') d T) := fun {f args} ⟨v, h1, h2⟩ =>
        h1.mono fun av L' ⟨e1, e2⟩ => by subst e1; subst e2; exact ⟨rfl, av, rfl, h2⟩
      simp only [GOp] at h
      simp only [AOp]
      cases op
      case call f xs =>
        simp only at h ⊢
        cases he : evXs T xs with
        | none => rw [he] at h; exact h.elim
        | some args => rw [he] at h; exact call h
      case callv f xs =>
        simp only at h ⊢
        cases hf : evX T f with
        | none => rw [hf] at h; exact h.elim
        | some u =>
          rw [hf] at h
          cases he : evXs T xs with
          | none => rw [he] at h; cases u <;> exact h.elim
          | some args =>
            rw [he] at h
            cases u <;> simp only [GCalv] at h
            exact call h
      all_goals
        simp only at h ⊢
        generalize evalOp T L _ = r at h ⊢
        cases r with
        | none => exact h.elim
        | some r =>
          obtain ⟨c, av, L'⟩ := r
          exact ⟨h.1, h.2.1, av, rfl, h.2.2⟩
    refine one_run h1 hst (.inr ⟨g.1, g.2, hok, hx⟩) hA fun E' T' L' a' w' hle ⟨e1, v, e2, hk⟩ hst' => ?_
    subst e1; subst e2
    exact hK E' _ a' w' hle hk (ext v) (fre v) hst'
  | grp g' t b body d x =>
    simp only [okO, Bool.and_eq_true, decide_eq_true_eq, Bool.not_eq_true', List.contains_eq_mem, decide_eq_false_iff_not] at hok
    obtain ⟨⟨⟨⟨hg', ht⟩, htb⟩, hgb⟩, hb⟩ := hok
    simp only [SOp.flat] at hl
    obtain ⟨js, ks, rfl, h1, h2⟩ := lowOps_app hl
    obtain ⟨i, rfl, h3⟩ := lowOps_one h2
    rw [List.append_assoc]
    simp only [GO] at h
    have hfr' : Fr (dstsOf (SOp.flatL body)) T := fun d' hd' => hfr d' (by simp [gds, hd'])
    -- the pick, in any state that knows the test and (where it ran) the value
    have fin : ∀ {E' : Env} {T' : Tm} {a' : Act} {w' : World} (p q : Bool), E.le E' → St w0 S0 N E' T' L a' w' → Ext (dstsOf (SOp.flatL body)) T T' → look T t = some (.bool p) → (p = b → evX T' x = some (.bool q)) → k ((d, .bool (mrg b p q)) :: T) → wpOps P ops Q ([i] ++ rest) a' w' := fun {E' T' a' w'} p q hle hst' hext hp hq hk => by
      have hv : evalOp T' L (.pick (.tmp t) (if b then x else .av (.bool true)) (if b then .av (.bool false) else x)) = some (True, .bool (mrg b p q), L) := by
        have ht' : look T' t = some (.bool p) := hext _ _ htb hp
        cases b <;> cases p <;> simp [evalOp, evX, ht', mrg] <;> exact hq rfl
      refine one_run h3 hst' (.inr ⟨g.1, g.2, by simp [pickOf, hg'], hext _ _ hgb hx⟩) (K := fun T'' L'' => T'' = (d, .bool (mrg b p q)) :: T' ∧ L'' = L) ?_ fun E'' T'' L'' a'' w'' hle' ⟨e1, e2⟩ hst'' => ?_
      · simp only [pickOf, AOp, hv, Res, putT, and_self]
      · subst e1; subst e2
        refine hK E'' ((d, .bool (mrg b p q)) :: T) a'' w'' (hle.trans hle') hk (fun u v hu hv => ?_) (fun u hu hn => ?_) ⟨hst''.1, hst''.2.1.weak fun u v hu => ?_, hst''.2.2⟩
        · simp only [outsOf, List.mem_singleton] at hu
          simp only [look]; rw [if_neg (Ne.symm hu)]; exact hv
        · simp only [outsOf, List.mem_singleton] at hu
          simp only [look]; rw [if_neg (Ne.symm hu)]; exact hn
        · simp only [look] at hu ⊢
          split
          · rename_i e; rw [if_pos e] at hu; exact hu
          · rename_i e
            rw [if_neg e] at hu
            refine hext u v (fun hm => ?_) hu
            rw [hfr' u hm] at hu; cases hu
    rcases hp : look T t with _ | u
    · rw [hp] at h; exact h.elim
    rw [hp] at h
    cases u <;> try exact h.elim
    rename_i p
    obtain ⟨q, hq, hk⟩ := h
    by_cases e : p = b
    · subst e
      refine gl_list body hb h1 hst hp (fun d hd => hfr' d (gds_sub body d hd)) (hq rfl) fun E' T' a' w' hle hx' hext hst' => fin p q hle hst' hext hp (fun _ => hx') hk
    · have : p = !b := by cases p <;> cases b <;> simp_all
      refine sk_list body hb h1 hst (.inl (by rw [hp, this])) (by simp) fun T' a' hext _ hst' => fin p q (.refl E) hst' hext hp (fun e' => absurd e' e) hk
theorem gl_list {own : Nat → Nat} {ops : Array Oper} {Q : Exit → Act → World → Prop} {L : List Blk} (l : List SOp) {g : Nat × Bool} {seen : List Nat} {is rest : List Nat} {T : Tm} {a : Act} {E : Env} {w : World} {k : Tm → Prop} (hok : okB g seen l = true) (hl : lowOps P N own ops is = some (SOp.flatL l))
    (hst : St w0 S0 N E T L a w) (hx : look T g.1 = some (.bool g.2)) (hfr : Fr (gds l) T) (h : GL P L l k T)
    (hK : ∀ E' T' a' w', E.le E' → k T' → Ext (dstsOf (SOp.flatL l)) T T' → St w0 S0 N E' T' L a' w' → wpOps P ops Q rest a' w') : wpOps P ops Q (is ++ rest) a w := by
  cases l with
  | nil =>
    simp only [SOp.flatL] at hl
    have : is = [] := by
      cases is with
      | nil => rfl
      | cons i is =>
        simp only [lowOps] at hl
        split at hl <;> cases hl
    subst this
    rw [GL] at h
    exact hK E T a w (.refl E) h (fun _ _ _ h => h) hst
  | cons s r =>
    simp only [okB, Bool.and_eq_true, List.all_eq_true, Bool.not_eq_true', bne_iff_ne, List.contains_eq_mem, decide_eq_false_iff_not] at hok
    obtain ⟨⟨h1, h2⟩, h3⟩ := hok
    simp only [SOp.flatL] at hl
    obtain ⟨js, ks, rfl, h4, h5⟩ := lowOps_app hl
    rw [List.append_assoc]
    rw [GL] at h
    rw [gds_cons] at hfr
    refine gl_one s h1 h4 hst hx (fun d hd => hfr d (List.mem_append_left _ hd)) h fun E' T' a' w' hle hk' e1 e2 hst' => ?_
    refine gl_list r h3 h5 hst' (e1 _ _ (fun hm => (h2 _ hm).2 rfl) hx) (fun d hd => e2 d (fun hm => (h2 d hm).1 hd) (hfr d (List.mem_append_right _ hd))) hk' fun E'' T'' a'' w'' hle' hk'' f1 hst'' => hK E'' T'' a'' w'' (hle.trans hle') hk'' (fun t v ht hv => ?_) hst''
    simp only [SOp.flatL, dstsOf, List.filterMap_append, List.mem_append, not_or] at ht
    exact f1 t v ht.2 (e1 t v (fun hm => ht.1 (outs_sub s t hm)) hv)
end

theorem AOp_put {o : LOper} {K : Tm → List Blk → Prop} {T : Tm} {L : List Blk} (h : AOp P o K T L) : AOp P o (fun T' L' => K T' L' ∧ ∃ v, T' = putT o.dst v T) T L := by
  obtain ⟨d, op, gd⟩ := o
  have call : ∀ {f : FuncId} {args : List AV}, ACall P f args L (Kon K d T) → ACall P f args L (Kon (fun T' L' => K T' L' ∧ ∃ v, T' = putT d v T) d T) := fun {f args} h => h.mono fun av L' h => ⟨h, av, rfl⟩
  simp only [AOp] at h ⊢
  cases op
  case call f xs =>
    simp only at h ⊢
    cases he : evXs T xs with
    | none => rw [he] at h; exact h.elim
    | some args => rw [he] at h; exact call h
  case callv f xs =>
    simp only at h ⊢
    cases hf : evX T f with
    | none => rw [hf] at h; cases he : evXs T xs <;> rw [he] at h <;> exact h.elim
    | some u =>
      rw [hf] at h
      cases he : evXs T xs with
      | none => rw [he] at h; cases u <;> exact h.elim
      | some args =>
        rw [he] at h
        cases u <;> simp only [Calv] at h
        exact call h
  all_goals
    simp only at h ⊢
    generalize evalOp T L _ = r at h ⊢
    cases r with
    | none => exact h.elim
    | some r => exact ⟨h.1, h.2, r.2.1, rfl⟩

/-- A region's operations. -/
theorem sl_sound {own : Nat → Nat} {ops : Array Oper} {Q : Exit → Act → World → Prop} {K : Tm → List Blk → Prop} : ∀ (l : List SOp) {is : List Nat} {T : Tm} {L : List Blk} {a : Act} {E : Env} {w : World}, okS l = true → lowOps P N own ops is = some (SOp.flatL l) →
    St w0 S0 N E T L a w → Fr (gds l) T → SL P l K T L → (∀ E' T' L' a' w', E.le E' → K T' L' → St w0 S0 N E' T' L' a' w' → Q .normal a' w') → wpOps P ops Q is a w
  | [], is, T, L, a, E, w, hok, hl, hst, hfr, h, hK => by
    simp only [SOp.flatL] at hl
    have : is = [] := by
      cases is with
      | nil => rfl
      | cons i is =>
        simp only [lowOps] at hl
        split at hl <;> cases hl
    subst this
    exact hK E T L a w (.refl E) h hst
  | .op o :: r, is, T, L, a, E, w, hok, hl, hst, hfr, h, hK => by
    simp only [okS, Bool.and_eq_true, List.all_eq_true, Option.mem_toList, Bool.not_eq_true', List.contains_eq_mem, decide_eq_false_iff_not] at hok
    simp only [SOp.flatL, SOp.flat, List.singleton_append] at hl
    obtain ⟨js, ks, rfl, h1, h2⟩ := lowOps_app (l := [o]) hl
    obtain ⟨i, rfl, h3⟩ := lowOps_one h1
    have hfr' : ∀ v, Fr (gds r) (putT o.dst v T) := fun v => Fr.put (ds := gds r) hfr fun k hk => hok.1 k hk
    have run : (o.guard = none ∨ ∃ t b, o.guard = some (t, b) ∧ look T t = some (.bool b)) → AOp P o (SL P r K) T L → wpOps P ops Q ([i] ++ ks) a w := fun hg h =>
      one_run h3 hst hg (AOp_put h) fun E' T' L' a' w' hle ⟨hs, v, e⟩ hst' => by
        subst e
        exact sl_sound r hok.2 h2 hst' (hfr' v) hs fun E'' T'' L'' a'' w'' hle' => hK E'' T'' L'' a'' w'' (hle.trans hle')
    have skip : ∀ t b, o.guard = some (t, b) → (look T t = some (.bool (!b)) ∨ look T t = some (.tup [])) → SL P r K (putT o.dst (.tup []) T) L → wpOps P ops Q ([i] ++ ks) a w := fun t b hg hx h =>
      one_skip h3 hst hg hx fun a' hst' => sl_sound r hok.2 h2 hst' (hfr' _) h hK
    rw [SL] at h
    rcases hg : o.guard with _ | ⟨t, b⟩
    · rw [hg] at h
      exact run (.inl hg) h
    · rw [hg] at h
      simp only at h
      rcases hx : look T t with _ | u
      · rw [hx] at h; exact h.elim
      rw [hx] at h
      cases u <;> try exact h.elim
      · rename_i x
        rw [Grd_bool] at h
        by_cases e : x = b
        · rw [if_pos e] at h
          exact run (.inr ⟨t, b, hg, by rw [hx, e]⟩) h
        · rw [if_neg e] at h
          have : x = !b := by cases x <;> cases b <;> simp_all
          exact skip t b hg (.inl (by rw [hx, this])) h
      · rename_i l
        cases l with
        | cons _ _ => exact h.elim
        | nil => exact skip t b hg (.inr hx) h
  | .grp g t b body d x :: r, is, T, L, a, E, w, hok, hl, hst, hfr, h, hK => by
    simp only [okS, Bool.and_eq_true, decide_eq_true_eq, Bool.not_eq_true', List.contains_eq_mem, decide_eq_false_iff_not] at hok
    obtain ⟨⟨⟨⟨hg, htb⟩, hb⟩, hd⟩, hr⟩ := hok
    simp only [SOp.flatL, SOp.flat, List.append_assoc] at hl
    obtain ⟨js, ks', rfl, h1, h2⟩ := lowOps_app hl
    obtain ⟨is', ks, rfl, h2', h4⟩ := lowOps_app h2
    obtain ⟨i, rfl, h3⟩ := lowOps_one h2'
    rw [SL] at h
    have hfr1 : Fr (dstsOf (SOp.flatL body)) T := fun d' hd' => hfr d' (by simp [gds, hd'])
    have hfr2 : Fr (gds r) T := fun d' hd' => hfr d' (by simp [gds, hd'])
    have fin : ∀ {E' : Env} {T' : Tm} {a' : Act} {w' : World} (p q : Bool), E.le E' → St w0 S0 N E' T' L a' w' → Ext (dstsOf (SOp.flatL body)) T T' → look T t = some (.bool p) → (p = b → evX T' x = some (.bool q)) → SL P r K ((d, .bool (mrg b p q)) :: T) L → wpOps P ops Q ([i] ++ ks) a' w' := fun {E' T' a' w'} p q hle hst' hext hp hq hk => by
      have hv : evalOp T' L (.pick (.tmp t) (if b then x else .av (.bool true)) (if b then .av (.bool false) else x)) = some (True, .bool (mrg b p q), L) := by
        have ht' : look T' t = some (.bool p) := hext _ _ htb hp
        cases b <;> cases p <;> simp [evalOp, evX, ht', mrg] <;> exact hq rfl
      refine one_run h3 hst' (.inl (by simp [pickOf, hg])) (K := fun T'' L'' => T'' = (d, .bool (mrg b p q)) :: T' ∧ L'' = L) ?_ fun E'' T'' L'' a'' w'' hle' ⟨e1, e2⟩ hst'' => ?_
      · simp only [pickOf, AOp, hv, Res, putT, and_self]
      · subst e1; subst e2
        refine sl_sound r hr h4 (T := (d, .bool (mrg b p q)) :: T) ⟨hst''.1, hst''.2.1.weak fun u v hu => ?_, hst''.2.2⟩ (Fr.put (d := some d) hfr2 fun k hk => by cases hk; exact hd) hk fun E3 T3 L3 a3 w3 hle3 => hK E3 T3 L3 a3 w3 ((hle.trans hle').trans hle3)
        simp only [look] at hu ⊢
        split
        · rename_i e; rw [if_pos e] at hu; exact hu
        · rename_i e
          rw [if_neg e] at hu
          refine hext u v (fun hm => ?_) hu
          rw [hfr1 u hm] at hu; cases hu
    rcases hp : look T t with _ | u
    · rw [hp] at h; exact h.elim
    rw [hp] at h
    cases u <;> try exact h.elim
    rename_i p
    obtain ⟨q, hq, hk⟩ := h
    by_cases e : p = b
    · subst e
      exact gl_list body hb h1 hst hp (fun d hd => hfr1 d (gds_sub body d hd)) (hq rfl) fun E' T' a' w' hle hx' hext hst' => fin p q hle hst' hext hp (fun _ => hx') hk
    · have : p = !b := by cases p <;> cases b <;> simp_all
      exact sk_list body hb h1 hst (.inl (by rw [hp, this])) (by simp) fun T' a' hext _ hst' => fin p q (.refl E) hst' hext hp (fun e' => absurd e' e) hk
end
end Go.Proofs.YtpednpndahgleaaGreatDoor.Av
