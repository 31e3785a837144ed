/- Regions whose order is drawn: one walk of the text's order serves every order, where all but a last operation leave the call's own blocks alone. No program in sight. -/
import Derived.Test.YtpednpndahgleaaGreatDoorAvS
set_option linter.unusedSimpArgs false
set_option linter.unusedVariables false
namespace Go.Proofs.YtpednpndahgleaaGreatDoor.Av
open Go

def Opd.tmps : Opd → List Nat
  | .tmp t => [t]
  | .av _ => []
def optT : Option Opd → List Nat
  | some x => x.tmps
  | none => []
def partsT : List (Nat × Nat × Opd) → List Nat
  | [] => []
  | (_, _, x) :: l => x.tmps ++ partsT l
def opdsT : List Opd → List Nat
  | [] => []
  | x :: l => x.tmps ++ opdsT l

def LOp.tmps : LOp → List Nat
  | .mv x | .box x | .load _ _ x | .nilchk x | .slnil _ x | .un _ x | .conv _ x | .sconv x | .b2s x | .s2b x | .s2bO x | .rangeS x | .nextS x | .mkif _ x | .faddr _ x | .field _ _ _ x | .extract x _ | .len _ x | .cap x | .clear _ _ x => x.tmps
  | .pick c a b => c.tmps ++ a.tmps ++ b.tmps
  | .alloc _ | .bad | .mkmap => []
  | .mlen x | .mrange x | .mnext x | .mentry x => x.tmps
  | .mget _ _ _ a x => a.tmps ++ x.tmps
  | .mdel _ a x => a.tmps ++ x.tmps
  | .mset _ c a b => c.tmps ++ a.tmps ++ b.tmps
  | .build _ ps | .bslice _ _ _ _ ps => partsT ps
  | .store _ a x | .bin _ a x | .eqk _ _ a x | .mkslice _ _ _ a x | .iaddr _ a x | .iaddrA _ _ a x | .idxS a x | .app _ _ _ _ a x | .appz _ _ _ a x | .copy _ a x => a.tmps ++ x.tmps
  | .mkfn _ l | .minmax _ l | .call _ l => opdsT l
  | .callv f l => f.tmps ++ opdsT l
  | .slS x lo hi | .slA _ _ x lo hi => x.tmps ++ optT lo ++ optT hi
  | .slV _ x lo hi mx => x.tmps ++ optT lo ++ optT hi ++ optT mx

section
variable {T T' : Tm} {L : List Blk}

theorem evX_congr {x : Opd} (h : ∀ t ∈ x.tmps, look T t = look T' t) : evX T x = evX T' x := by
  cases x with
  | tmp t => exact h t (by simp [Opd.tmps])
  | av a => rfl
theorem bnd_congr {x : Option Opd} (h : ∀ t ∈ optT x, look T t = look T' t) : bnd T x = bnd T' x := by
  cases x with
  | none => rfl
  | some x => simp only [bnd, evX_congr (x := x) h]
theorem evXs_congr : ∀ {l : List Opd}, (∀ t ∈ opdsT l, look T t = look T' t) → evXs T l = evXs T' l
  | [], _ => rfl
  | x :: l, h => by
    simp only [opdsT, List.mem_append] at h
    simp only [evXs, evX_congr (x := x) (fun t ht => h t (.inl ht)), evXs_congr (l := l) (fun t ht => h t (.inr ht))]
theorem fillA_congr : ∀ {ps : List (Nat × Nat × Opd)} {z : List AV}, (∀ t ∈ partsT ps, look T t = look T' t) → fillA T z ps = fillA T' z ps
  | [], _, _ => rfl
  | (o, s, x) :: l, z, h => by
    simp only [partsT, List.mem_append] at h
    simp only [fillA, evX_congr (x := x) (fun t ht => h t (.inl ht))]
    split
    · split
      · exact fillA_congr fun t ht => h t (.inr ht)
      · rfl
    · rfl

theorem evalOp_congr {lo : LOp} (h : ∀ t ∈ lo.tmps, look T t = look T' t) : evalOp T L lo = evalOp T' L lo := by
  cases lo
  case mv x => simp only [evalOp, evD, evX_congr (x := x) h]
  case box x => simp only [evalOp, evD, evX_congr (x := x) h]
  case load g s x => simp only [evalOp, evD, evX_congr (x := x) h]
  case nilchk x => simp only [evalOp, evD, evX_congr (x := x) h]
  case un o x => simp only [evalOp, evD, evX_congr (x := x) h]
  case conv k x => simp only [evalOp, evD, evX_congr (x := x) h]
  case sconv x => simp only [evalOp, evD, evX_congr (x := x) h]
  case b2s x => simp only [evalOp, evD, evX_congr (x := x) h]
  case bad => rfl
  case mkmap => rfl
  case mlen x => simp only [evalOp, evD, evX_congr (x := x) h]
  case mrange x => simp only [evalOp, evD, evX_congr (x := x) h]
  case mnext x => simp only [evalOp, evD, evX_congr (x := x) h]
  case mentry x => simp only [evalOp, evD, evX_congr (x := x) h]
  case mget kd ok z a x =>
    simp only [LOp.tmps, List.mem_append] at h
    simp only [evalOp, evD, evX_congr (x := a) (fun t ht => h t (.inl ht)), evX_congr (x := x) (fun t ht => h t (.inr ht))]
  case mdel kd a x =>
    simp only [LOp.tmps, List.mem_append] at h
    simp only [evalOp, evD, evX_congr (x := a) (fun t ht => h t (.inl ht)), evX_congr (x := x) (fun t ht => h t (.inr ht))]
  case mset kd c a b =>
    simp only [LOp.tmps, List.mem_append] at h
    simp only [evalOp, evD, evX_congr (x := c) (fun t ht => h t (.inl (.inl ht))), evX_congr (x := a) (fun t ht => h t (.inl (.inr ht))), evX_congr (x := b) (fun t ht => h t (.inr ht))]
  case slnil _ x => simp only [evalOp, evD, evX_congr (x := x) h]
  case s2b x => simp only [evalOp, evD, evX_congr (x := x) h]
  case s2bO x => simp only [evalOp, evD, evX_congr (x := x) h]
  case rangeS x => simp only [evalOp, evD, evX_congr (x := x) h]
  case nextS x => simp only [evalOp, evD, evX_congr (x := x) h]
  case mkif t x => simp only [evalOp, evD, evX_congr (x := x) h]
  case faddr o x => simp only [evalOp, evD, evX_congr (x := x) h]
  case field g o s x => simp only [evalOp, evD, evX_congr (x := x) h]
  case extract x i => simp only [evalOp, evD, evX_congr (x := x) h]
  case len b x => cases b <;> simp only [evalOp, evD, evX_congr (x := x) h]
  case cap x => simp only [evalOp, evD, evX_congr (x := x) h]
  case clear s z x => simp only [evalOp, evD, evX_congr (x := x) h]
  case alloc z => rfl
  case pick c a b =>
    simp only [LOp.tmps, List.mem_append] at h
    simp only [evalOp, evD, evX_congr (x := c) (fun t ht => h t (.inl (.inl ht))), evX_congr (x := a) (fun t ht => h t (.inl (.inr ht))), evX_congr (x := b) (fun t ht => h t (.inr ht))]
  case build z ps => simp only [evalOp, evD, fillA_congr (ps := ps) h]
  case bslice o s n z ps => simp only [evalOp, evD, fillA_congr (ps := ps) h]
  case mkfn f l => simp only [evalOp, evD, evXs_congr (l := l) h]
  case minmax m l =>
    match l, h with
    | [x, y], h =>
      simp only [LOp.tmps, opdsT, List.mem_append, List.append_nil] at h
      simp only [evalOp, evD, evX_congr (x := x) (fun t ht => h t (.inl ht)), evX_congr (x := y) (fun t ht => h t (.inr ht))]
    | [], _ => rfl
    | [_], _ => rfl
    | _ :: _ :: _ :: _, _ => rfl
  case call f l => rfl
  case callv f l => rfl
  case slS x lo hi =>
    simp only [LOp.tmps, List.mem_append] at h
    simp only [evalOp, evD, evX_congr (x := x) (fun t ht => h t (.inl (.inl ht))), bnd_congr (x := lo) (fun t ht => h t (.inl (.inr ht))), bnd_congr (x := hi) (fun t ht => h t (.inr ht))]
  case slA n s x lo hi =>
    simp only [LOp.tmps, List.mem_append] at h
    simp only [evalOp, evD, evX_congr (x := x) (fun t ht => h t (.inl (.inl ht))), bnd_congr (x := lo) (fun t ht => h t (.inl (.inr ht))), bnd_congr (x := hi) (fun t ht => h t (.inr ht))]
  case slV s x lo hi mx =>
    simp only [LOp.tmps, List.mem_append] at h
    simp only [evalOp, evD, evX_congr (x := x) (fun t ht => h t (.inl (.inl (.inl ht)))), bnd_congr (x := lo) (fun t ht => h t (.inl (.inl (.inr ht)))), bnd_congr (x := hi) (fun t ht => h t (.inl (.inr ht))), bnd_congr (x := mx) (fun t ht => h t (.inr ht))]
  all_goals
    rename_i a x
    simp only [LOp.tmps, List.mem_append] at h
    simp only [evalOp, evD, evX_congr (x := a) (fun t ht => h t (.inl ht)), evX_congr (x := x) (fun t ht => h t (.inr ht))]
end

/-- Everything that an operation looks at. -/
def LOper.reads (o : LOper) : List Nat :=
  o.op.tmps ++ (match o.guard with | some (t, _) => [t] | none => [])

/-- A quiet operation: one value; the call's own blocks stay. -/
def AQv (P : Program) (o : LOper) (T : Tm) (L : List Blk) (v : AV) : Prop :=
  match o.op with
  | .call f xs => match evXs T xs with
    | some args => ACall P f args L fun av L' => av = v ∧ L' = L
    | none => False
  | .callv f xs => match evX T f, evXs T xs with
    | some (.func g caps), some args => ACall P g (args ++ caps) L fun av L' => av = v ∧ L' = L
    | _, _ => False
  | lo => match evalOp T L lo with
    | some (c, av, L') => c ∧ av = v ∧ L' = L
    | none => False

def AQ (P : Program) (o : LOper) (T : Tm) (L : List Blk) (v : AV) : Prop :=
  match o.guard with
  | none => AQv P o T L v
  | some (t, b) => match look T t with
    | some (.bool x) => if x = b then AQv P o T L v else v = .tup []
    | some (.tup []) => v = .tup []
    | _ => False

theorem AQ.congr {P : Program} {o : LOper} {T T' : Tm} {L : List Blk} {v : AV} (h : ∀ t ∈ o.reads, look T t = look T' t) (hq : AQ P o T L v) : AQ P o T' L v := by
  have h1 : ∀ t ∈ o.op.tmps, look T t = look T' t := fun t ht => h t (by simp [LOper.reads, ht])
  have hv : AQv P o T L v → AQv P o T' L v := fun hv => by
    unfold AQv at hv ⊢
    split at hv
    · rename_i f xs e
      rw [e] at h1
      rw [← evXs_congr (l := xs) h1]; exact hv
    · rename_i f xs e
      rw [e] at h1
      simp only [LOp.tmps, List.mem_append] at h1
      rw [← evXs_congr (l := xs) (fun t ht => h1 t (.inr ht)), ← evX_congr (x := f) (fun t ht => h1 t (.inl ht))]; exact hv
    · rw [← evalOp_congr h1]; exact hv
  unfold AQ at hq ⊢
  split at hq
  · exact hv hq
  · rename_i t b hg
    rw [← h t (by simp [LOper.reads, hg])]
    split at hq
    · split at hq
      · rename_i e; rw [if_pos e]; exact hv hq
      · rename_i e; rw [if_neg e]; exact hq
    · exact hq
    · exact hq.elim

/-- In the text's order: quiet operations (with the call's own blocks as any of Ls has them), one that makes the new block p (al says which, if any), and at the end whatever K says. -/
def ADops (P : Program) (K : Tm → Prop) (Ls : List (List Blk)) (p : AV) : List LOper → Option Nat → Tm → Prop
  | [], _, T => K T
  | o :: rest, none, T => ∃ v, (∀ L ∈ Ls, AQ P o T L v) ∧ ADops P K Ls p rest none (putT o.dst v T)
  | o :: rest, some 0, T => ADops P K Ls p rest none (putT o.dst p T)
  | o :: rest, some (n + 1), T => ∃ v, (∀ L ∈ Ls, AQ P o T L v) ∧ ADops P K Ls p rest (some n) (putT o.dst v T)

/-- The temporaries behind those operations that f tells. -/
def TL (T : Tm) : List LOper → List AV → Nat → (Nat → Bool) → Tm
  | o :: qs, v :: tr, k, f => TL (if f k = true then putT o.dst v T else T) qs tr (k + 1) f
  | _, _, _, _ => T

def Dist : List LOper → Prop
  | [] => True
  | o :: qs => (∀ p ∈ qs, ∀ d, o.dst = some d → p.dst ≠ some d) ∧ Dist qs

theorem look_putT_ne {T : Tm} {d : Option Nat} {v : AV} {t : Nat} (h : d ≠ some t) : look (putT d v T) t = look T t := by
  cases d with
  | none => rfl
  | some d => simp only [putT, look]; rw [if_neg (fun e => h (by rw [e]))]
theorem look_putT_eq {T : Tm} {v : AV} {t : Nat} : look (putT (some t) v T) t = some v := by simp [putT, look]

theorem TL_none {t : Nat} : ∀ {qs : List LOper} {tr : List AV} {T : Tm} {k : Nat} {f : Nat → Bool}, (∀ (j : Nat) (o : LOper), qs[j]? = some o → o.dst = some t → f (k + j) = false) → look (TL T qs tr k f) t = look T t
  | [], tr, T, k, f, _ => by cases tr <;> rfl
  | o :: qs, [], T, k, f, _ => rfl
  | o :: qs, v :: tr, T, k, f, h => by
    simp only [TL]
    rw [TL_none (fun j p hp hd => by have := h (j + 1) p (by simpa using hp) hd; rwa [show k + 1 + j = k + (j + 1) by omega])]
    split
    · rename_i hf
      refine look_putT_ne fun e => ?_
      have := h 0 o (by simp) e
      simp [hf] at this
    · rfl

theorem TL_some {t : Nat} {v : AV} : ∀ {qs : List LOper} {tr : List AV} {T : Tm} {k : Nat} {f : Nat → Bool} {j : Nat} {o : LOper}, Dist qs → qs[j]? = some o → o.dst = some t → tr[j]? = some v → f (k + j) = true → look (TL T qs tr k f) t = some v
  | [], _, _, _, _, j, o, _, h, _, _, _ => by simp at h
  | p :: qs, [], _, _, _, j, o, _, _, _, h, _ => by simp at h
  | p :: qs, u :: tr, T, k, f, 0, o, hD, h, hd, hv, hf => by
    simp only [List.getElem?_cons_zero, Option.some.injEq] at h hv
    subst h hv
    simp only [TL]
    simp only [Nat.add_zero] at hf
    rw [if_pos hf, TL_none fun j q hq hqd => absurd hqd (hD.1 q (List.mem_of_getElem? hq) t hd), hd]
    exact look_putT_eq
  | p :: qs, u :: tr, T, k, f, j + 1, o, hD, h, hd, hv, hf => by
    simp only [TL]
    exact TL_some hD.2 (by simpa using h) hd (by simpa using hv) (by rwa [show k + 1 + j = k + (j + 1) by omega])

theorem TL_ext : ∀ {qs : List LOper} {tr : List AV} {T : Tm} {k : Nat} {f g : Nat → Bool}, (∀ j, j < qs.length → f (k + j) = g (k + j)) → TL T qs tr k f = TL T qs tr k g
  | [], tr, T, k, f, g, _ => by cases tr <;> rfl
  | o :: qs, [], T, k, f, g, _ => rfl
  | o :: qs, v :: tr, T, k, f, g, h => by
    simp only [TL]
    have h0 := h 0 (by simp)
    simp only [Nat.add_zero] at h0
    rw [h0]
    exact TL_ext fun j hj => by rw [show k + 1 + j = k + (j + 1) by omega]; exact h (j + 1) (by simpa using hj)

theorem TL_false : ∀ (qs : List LOper) (tr : List AV) (T : Tm) (k : Nat), TL T qs tr k (fun _ => false) = T := by
  intro qs
  induction qs with
  | nil => intro tr T k; cases tr <;> rfl
  | cons q qs ih => intro tr T k; cases tr with
    | nil => rfl
    | cons u tr => simp only [TL]; rw [ih]; simp

theorem ADops_trace {P : Program} {K : Tm → Prop} {Ls : List (List Blk)} {p : AV} : ∀ {qs : List LOper} {al : Option Nat} {T : Tm} (k : Nat), ADops P K Ls p qs al T →
    ∃ tr : List AV, tr.length = qs.length ∧ (∀ (i : Nat) (o : LOper) (v : AV), qs[i]? = some o → tr[i]? = some v → (al = some i ∧ v = p) ∨ (al ≠ some i ∧ ∀ L ∈ Ls, AQ P o (TL T qs tr k fun j => decide (j < k + i)) L v)) ∧ K (TL T qs tr k fun _ => true)
  | [], al, T, k, h => by
    refine ⟨[], rfl, fun i o v ho => by simp at ho, ?_⟩
    cases al <;> exact h
  | o :: qs, al, T, k, h => by
    have step : ∀ (v : AV) (al' : Option Nat), (∀ i, al = some (i + 1) ↔ al' = some i) → ADops P K Ls p qs al' (putT o.dst v T) → ((al = some 0 ∧ v = p) ∨ (al ≠ some 0 ∧ ∀ L ∈ Ls, AQ P o T L v)) →
        ∃ tr : List AV, tr.length = (o :: qs).length ∧ (∀ (i : Nat) (q : LOper) (v : AV), (o :: qs)[i]? = some q → tr[i]? = some v → (al = some i ∧ v = p) ∨ (al ≠ some i ∧ ∀ L ∈ Ls, AQ P q (TL T (o :: qs) tr k fun j => decide (j < k + i)) L v)) ∧ K (TL T (o :: qs) tr k fun _ => true) := fun v al' hal h2 h1 => by
      obtain ⟨tr, h3, h4, h5⟩ := ADops_trace (k + 1) h2
      refine ⟨v :: tr, by simp [h3], fun i q u hq hu => ?_, by simpa [TL] using h5⟩
      cases i with
      | zero =>
        simp only [List.getElem?_cons_zero, Option.some.injEq] at hq hu
        subst hq hu
        have : TL T (o :: qs) (v :: tr) k (fun j => decide (j < k + 0)) = T := by
          have e : TL T (o :: qs) (v :: tr) k (fun j => decide (j < k + 0)) = TL T (o :: qs) (v :: tr) k (fun _ => false) := TL_ext fun j _ => by simp
          rw [e]
          exact TL_false _ _ _ _
        rw [this]; exact h1
      | succ i =>
        have := h4 i q u (by simpa using hq) (by simpa using hu)
        have e : TL T (o :: qs) (v :: tr) k (fun j => decide (j < k + (i + 1))) = TL (putT o.dst v T) qs tr (k + 1) (fun j => decide (j < k + 1 + i)) := by
          simp only [TL]
          rw [if_pos (by simp)]
          exact TL_ext fun j _ => by congr 1; simp; omega
        rw [e]
        rcases this with ⟨g1, g2⟩ | ⟨g1, g2⟩
        · exact .inl ⟨(hal i).2 g1, g2⟩
        · exact .inr ⟨fun e => g1 ((hal i).1 e), g2⟩
    match al, h with
    | none, h => obtain ⟨v, h1, h2⟩ := h; exact step v none (by simp) h2 (.inr ⟨by simp, h1⟩)
    | some 0, h => exact step p none (by simp) h (.inl ⟨rfl, rfl⟩)
    | some (n + 1), h => obtain ⟨v, h1, h2⟩ := h; exact step v (some n) (by simp) h2 (.inr ⟨by simp, h1⟩)

theorem Dist_unique {t : Nat} : ∀ {qs : List LOper} {i j : Nat} {o p : LOper}, Dist qs → qs[i]? = some o → qs[j]? = some p → o.dst = some t → p.dst = some t → i = j
  | [], i, j, o, p, _, h, _, _, _ => by simp at h
  | q :: qs, 0, 0, o, p, _, _, _, _, _ => rfl
  | q :: qs, 0, j + 1, o, p, hD, h1, h2, d1, d2 => by
    simp only [List.getElem?_cons_zero, Option.some.injEq] at h1; subst h1
    exact absurd d2 (hD.1 p (List.mem_of_getElem? (by simpa using h2)) t d1)
  | q :: qs, i + 1, 0, o, p, hD, h1, h2, d1, d2 => by
    simp only [List.getElem?_cons_zero, Option.some.injEq] at h2; subst h2
    exact absurd d1 (hD.1 o (List.mem_of_getElem? (by simpa using h1)) t d2)
  | q :: qs, i + 1, j + 1, o, p, hD, h1, h2, d1, d2 => by
    have := Dist_unique (i := i) (j := j) (o := o) (p := p) hD.2 (by simpa using h1) (by simpa using h2) d1 d2
    omega

theorem TL_val {qs : List LOper} {tr : List AV} {T : Tm} {f : Nat → Bool} {j t : Nat} {o : LOper} (hD : Dist qs) (hl : tr.length = qs.length) (h : qs[j]? = some o) (hd : o.dst = some t) :
    look (TL T qs tr 0 f) t = if f j = true then tr[j]? else look T t := by
  have hj : j < tr.length := by have := (List.getElem?_eq_some_iff.1 h).1; omega
  split
  · rename_i hf
    rw [List.getElem?_eq_getElem hj]
    exact TL_some hD h hd (List.getElem?_eq_getElem hj) (by simpa using hf)
  · rename_i hf
    exact TL_none fun j' o' ho' hd' => by
      have := Dist_unique hD ho' h hd' hd
      subst this
      simpa using hf

theorem TL_out {qs : List LOper} {tr : List AV} {T : Tm} {f : Nat → Bool} {t : Nat} (h : ∀ (j : Nat) (o : LOper), qs[j]? = some o → o.dst ≠ some t) : look (TL T qs tr 0 f) t = look T t :=
  TL_none fun j o ho hd => absurd hd (h j o ho)

/-! ### The static check -/

/-- Which operations stand ahead of one, whatever the order: as bits. -/
def cmask (tbl : List Nat) (o : Oper) : Nat := (o.after.toList.filter fun e => Region.binds .any e).foldl (fun acc e => acc ||| (1 <<< e.on) ||| tbl.getD e.on 0) 0
def ctable : List Oper → List Nat → List Nat
  | [], t => t
  | o :: l, t => ctable l (t ++ [cmask t o])
def fixB (ops : Array Oper) (tbl : List Nat) : Bool := ops.toList.zipIdx.all fun (o, i) => tbl.getD i 0 == cmask tbl o

theorem cmask_bit {tbl : List Nat} {o : Oper} {j : Nat} (h : (cmask tbl o).testBit j = true) : ∃ e ∈ o.after.toList, Region.binds .any e = true ∧ (j = e.on ∨ (tbl.getD e.on 0).testBit j = true) := by
  have key : ∀ (l : List Edge) (acc : Nat), (l.foldl (fun acc e => acc ||| (1 <<< e.on) ||| tbl.getD e.on 0) acc).testBit j = true → acc.testBit j = true ∨ ∃ e ∈ l, j = e.on ∨ (tbl.getD e.on 0).testBit j = true := by
    intro l
    induction l with
    | nil => intro acc h; exact .inl h
    | cons e l ih =>
      intro acc h
      rcases ih _ h with h1 | ⟨e', h1, h2⟩
      · rw [Nat.testBit_or, Nat.testBit_or, Bool.or_eq_true, Bool.or_eq_true] at h1
        rcases h1 with (h1 | h1) | h1
        · exact .inl h1
        · refine .inr ⟨e, by simp, .inl ?_⟩
          rw [Nat.one_shiftLeft, Nat.testBit_two_pow] at h1
          exact (of_decide_eq_true h1).symm
        · exact .inr ⟨e, by simp, .inr h1⟩
      · exact .inr ⟨e', by simp [h1], h2⟩
  rcases key _ _ h with h1 | ⟨e, h1, h2⟩
  · simp at h1
  · rw [List.mem_filter] at h1
    exact ⟨e, h1.1, h1.2, h2⟩

def distB : List LOper → Bool
  | [] => true
  | o :: qs => (match o.dst with | some d => qs.all fun p => !(p.dst == some d) | none => true) && distB qs

theorem distB_spec : ∀ {qs : List LOper}, distB qs = true → Dist qs
  | [], _ => trivial
  | o :: qs, h => by
    simp only [distB, Bool.and_eq_true] at h
    refine ⟨fun p hp d hd => ?_, distB_spec h.2⟩
    have h1 := h.1
    rw [hd] at h1
    have := List.all_eq_true.1 h1 p hp
    simpa using this

/-- Every two operations of which one writes what the other reads stand in an order. -/
def tiedB (tbl : List Nat) (los : List LOper) : Bool :=
  los.zipIdx.all fun (o, i) => o.reads.all fun t => los.zipIdx.all fun (p, j) => !(p.dst == some t) || (tbl.getD i 0).testBit j || (tbl.getD j 0).testBit i

def aheadB (ops : Array Oper) : Bool := ops.toList.zipIdx.all fun (o, i) => o.after.toList.all fun e => !Region.binds .any e || decide (e.on < i)

/-- From operation n on each stands behind all others ahead of it. -/
def chainB (tbl : List Nat) (n k : Nat) : Bool := (List.range k).all fun i => decide (i < n) || (List.range i).all fun j => (tbl.getD i 0).testBit j
def chainFrom (tbl : List Nat) (k : Nat) : Nat → Nat
  | 0 => 0
  | n + 1 => if ((List.range n).all fun j => (tbl.getD n 0).testBit j) = true then chainFrom tbl k n else n + 1

def drawOk (ops : Array Oper) (los : List LOper) (n : Nat) : Bool :=
  let tbl := ctable ops.toList []
  distB los && tiedB tbl los && aheadB ops && fixB ops tbl && chainB tbl n ops.size

def Closed (ops : Array Oper) (listed : Array Bool) : Prop := ∀ (i : Nat) (o : Oper), listed.getD i false = true → ops[i]? = some o → ∀ e ∈ o.after, Region.binds .any e = true → listed.getD e.on false = true

theorem tbl_get {ops : Array Oper} {tbl : List Nat} (hf : fixB ops tbl = true) {i : Nat} {o : Oper} (ho : ops[i]? = some o) : tbl.getD i 0 = cmask tbl o := by
  have := List.all_eq_true.1 hf (o, i) (by rw [List.mem_zipIdx_iff_getElem?]; simpa using ho)
  simpa using this

theorem ahead_get {ops : Array Oper} (h : aheadB ops = true) {i : Nat} {o : Oper} (ho : ops[i]? = some o) {e : Edge} (he : e ∈ o.after) (hb : Region.binds .any e = true) : e.on < i := by
  have := List.all_eq_true.1 h (o, i) (by rw [List.mem_zipIdx_iff_getElem?]; simpa using ho)
  have := List.all_eq_true.1 this e (by simpa using he)
  simpa [hb] using this

theorem clos_lt {ops : Array Oper} {tbl : List Nat} (h : aheadB ops = true) (hf : fixB ops tbl = true) : ∀ (i j : Nat), i < ops.size → (tbl.getD i 0).testBit j = true → j < i := by
  intro i
  induction i using Nat.strongRecOn with
  | _ i ih =>
    intro j hi hj
    have ho : ops[i]? = some ops[i] := Array.getElem?_eq_getElem hi
    rw [tbl_get hf ho] at hj
    obtain ⟨e, he, hb, hj⟩ := cmask_bit hj
    have hlt := ahead_get h ho (by simpa using he) hb
    rcases hj with rfl | hj
    · exact hlt
    · have := ih e.on hlt j (by omega) hj; omega

theorem clos_listed {ops : Array Oper} {tbl : List Nat} (h : aheadB ops = true) (hf : fixB ops tbl = true) {listed : Array Bool} (hc : Closed ops listed) : ∀ (i j : Nat), i < ops.size →
    (∀ o, ops[i]? = some o → ∀ e ∈ o.after, Region.binds .any e = true → listed.getD e.on false = true) → (tbl.getD i 0).testBit j = true → listed.getD j false = true := by
  intro i
  induction i using Nat.strongRecOn with
  | _ i ih =>
    intro j hi hed hj
    have ho : ops[i]? = some ops[i] := Array.getElem?_eq_getElem hi
    rw [tbl_get hf ho] at hj
    obtain ⟨e, he, hb, hj⟩ := cmask_bit hj
    have hlt := ahead_get h ho (by simpa using he) hb
    have hl := hed _ ho e (by simpa using he) hb
    rcases hj with rfl | hj
    · exact hl
    · exact ih e.on hlt j (by omega) (fun o' ho' e' he' hb' => hc e.on o' hl ho' e' he' hb') hj

theorem count_set : ∀ (l : List Bool) (i : Nat), l[i]? = some false → (l.set i true).count false + 1 = l.count false
  | [], i, h => by simp at h
  | b :: l, 0, h => by simp at h; subst h; simp
  | b :: l, i + 1, h => by
    have := count_set l i (by simpa using h)
    simp only [List.set_cons_succ, List.count_cons]
    omega

theorem lowOps_get {P : Program} {N : Nat} {own : Nat → Nat} {ops : Array Oper} : ∀ {is : List Nat} {los : List LOper}, lowOps P N own ops is = some los → los.length = is.length ∧ ∀ (k i : Nat), is[k]? = some i → ∃ lo, los[k]? = some lo ∧ lowOper P N own ops i = some lo
  | [], los, h => by simp [lowOps] at h; subst h; simp
  | j :: is, los, h => by
    simp only [lowOps] at h
    split at h <;> try cases h
    rename_i o m h1 h2
    have := lowOps_get h2
    refine ⟨by simp [this.1], fun k i hk => ?_⟩
    cases k with
    | zero => simp at hk; subst hk; exact ⟨o, by simp, h1⟩
    | succ k => simpa using this.2 k i (by simpa using hk)

section
variable {P : Program} {w0 : World} {S0 : Nat → Prop} {N : Nat} {own : Nat → Nat} {ops : Array Oper} {L : List Blk}

/-- A quiet operation, run. -/
theorem aq_sound {i : Nat} {lo : LOper} (h1 : lowOper P N own ops i = some lo) {T : Tm} {v : AV} {E : Env} {a : Act} {w : World} (hst : St w0 S0 N E T L a w) (hq : AQ P lo T L v) {K : Act → World → Prop} {Q : Exit → Act → World → Prop}
    (hK : ∀ E' a' w', E.le E' → St w0 S0 N E' (putT lo.dst v T) L a' w' → K a' w') : wpOp P ops Q i K a w := by
  obtain ⟨o, ho, hop, hdst, hd, hg⟩ := lowOper_spec h1
  obtain ⟨ld, lop, lg⟩ := lo
  simp only at hop hdst hg hK
  subst hdst
  unfold wpOp
  simp only [ho]
  have toOp : AQv P ⟨o.dst, lop, lg⟩ T L v → AOp P ⟨o.dst, lop, lg⟩ (fun T' L' => T' = putT o.dst v T ∧ L' = L) T L := fun hv => by
    unfold AQv at hv
    unfold AOp
    simp only at hv ⊢
    split at hv
    · split at hv
      · rename_i f xs _ args he
        show Cal P f _ o.dst T L (evXs T xs)
        rw [he]
        exact hv.mono fun av L' ⟨e1, e2⟩ => by subst e1; exact ⟨rfl, e2⟩
      · exact hv.elim
    · split at hv
      · rename_i f xs _ _ g caps args he1 he2
        show Calv P _ o.dst T L (evX T f) (evXs T xs)
        rw [he1, he2]
        exact hv.mono fun av L' ⟨e1, e2⟩ => by subst e1; exact ⟨rfl, e2⟩
      · exact hv.elim
    · split at hv
      · rename_i c av L' he
        have hres : Res (fun T' L' => T' = putT o.dst v T ∧ L' = L) o.dst T (evalOp T L lop) := by
          rw [he]
          obtain ⟨hc, rfl, rfl⟩ := hv
          exact ⟨hc, rfl, rfl⟩
        cases lop <;> first | exact hres | (simp [evalOp] at he)
      · exact hv.elim
  have go : AQv P ⟨o.dst, lop, lg⟩ T L v → o.wp P a w K Q := fun hv =>
    aop_sound hop hd hst (toOp hv) fun E' T' L' a' w' hle hk hst' => by
      obtain ⟨rfl, rfl⟩ := hk
      exact hK E' a' w' hle hst'
  unfold AQ at hq
  rcases hg with ⟨g1, g2⟩ | ⟨j, b, t, g1, g2, g3, g4⟩
  · subst g2
    simp only at hq
    rw [if_pos (by simp [Region.wanted, g1])]
    exact .inl (go hq)
  · subst g4
    simp only at hq
    have hy := yielded_look (E := E) (T := T) (a := a) (ops := ops) hst.2.1 g2 (by rw [hst.2.2.1]; exact g3)
    split at hq
    · rename_i x hx
      have := hy.1 x hx
      by_cases e : x = b
      · rw [if_pos e] at hq
        rw [if_pos (by simp [Region.wanted, g1, this, e])]
        exact .inl (go hq)
      · rw [if_neg e] at hq
        subst hq
        rw [if_neg (by simp [Region.wanted, g1, this, e])]
        exact hK E _ w (.refl E) (st_skip hst hd)
    · rename_i hx
      have := hy.2 hx
      subst hq
      rw [if_neg (by simp [Region.wanted, g1, this])]
      exact hK E _ w (.refl E) (st_skip hst hd)
    · exact hq.elim

/-- One operation, whatever it does. -/
theorem aop1_sound {i : Nat} {lo : LOper} (h1 : lowOper P N own ops i = some lo) {T : Tm} {L : List Blk} {E : Env} {a : Act} {w : World} (hst : St w0 S0 N E T L a w) {K : Tm → List Blk → Prop} (h : AOps P K [lo] T L) {K' : Act → World → Prop} {Q : Exit → Act → World → Prop}
    (hK : ∀ E' T' L' a' w', E.le E' → K T' L' → St w0 S0 N E' T' L' a' w' → K' a' w') : wpOp P ops Q i K' a w := by
  obtain ⟨o, ho, hop, hdst, hd, hg⟩ := lowOper_spec h1
  obtain ⟨ld, lop, lg⟩ := lo
  simp only at hop hdst hg
  subst hdst
  unfold wpOp
  simp only [ho]
  have go : AOp P ⟨o.dst, lop, lg⟩ (AOps P K []) T L → o.wp P a w K' Q := fun h' =>
    aop_sound hop hd hst h' fun E' T' L' a' w' hle hk' hst' => hK E' T' L' a' w' hle hk' hst'
  have skip : K (putT o.dst (.tup []) T) L → K' (a.put o.dst undef) w := fun h' => hK E _ L _ w (.refl E) h' (st_skip hst hd)
  rcases hg with ⟨g1, g2⟩ | ⟨j, b, t, g1, g2, g3, g4⟩
  · subst g2
    simp only [AOps] at h
    rw [if_pos (by simp [Region.wanted, g1])]
    exact .inl (go h)
  · subst g4
    simp only [AOps] at h
    have hy := yielded_look (E := E) (T := T) (a := a) (ops := ops) hst.2.1 g2 (by rw [hst.2.2.1]; exact g3)
    rcases hx : look T t with _ | u
    · rw [hx] at h; exact h.elim
    rw [hx] at h
    cases u <;> try exact h.elim
    · rename_i x
      rw [Grd_bool] at h
      have := hy.1 x hx
      by_cases e : x = b
      · rw [if_pos (by simp [Region.wanted, g1, this, e])]
        rw [if_pos e] at h
        exact .inl (go h)
      · rw [if_neg (by simp [Region.wanted, g1, this, e])]
        rw [if_neg e] at h
        exact skip h
    · rename_i l
      cases l with
      | cons _ _ => exact h.elim
      | nil =>
        have := hy.2 hx
        rw [if_neg (by simp [Region.wanted, g1, this])]
        exact skip h

/-- A chain of operations, each behind all others. -/
theorem tail_sound {los : List LOper} {tbl : List Nat} {n : Nat} (hlow : lowOps P N own ops (List.range ops.size) = some los) (hahead : aheadB ops = true) (hfix : fixB ops tbl = true) (hchain : chainB tbl n ops.size = true)
    {K : Tm → List Blk → Prop} {Q : Exit → Act → World → Prop} {E0 : Env} (hQ : ∀ E' T' L' a' w', E0.le E' → K T' L' → St w0 S0 N E' T' L' a' w' → Q .normal a' w') :
    ∀ (ts : List LOper) (k : Nat) (listed : Array Bool) (T : Tm) (L : List Blk) (a : Act) (w : World) (E : Env), n ≤ k → k + ts.length = ops.size → los.drop k = ts → listed.size = ops.size →
      (∀ i, i < ops.size → listed.getD i false = decide (i < k)) → Closed ops listed → E0.le E → St w0 S0 N E T L a w → AOps P K ts T L → wpAny P .any ops Q ts.length listed a w := by
  have hget := lowOps_get hlow
  have ready : ∀ (k : Nat) (listed : Array Bool), n ≤ k → listed.size = ops.size → (∀ i, i < ops.size → listed.getD i false = decide (i < k)) → Closed ops listed → ∀ i ∈ Region.ready .any ops listed, i = k := by
    intro k listed hnk hsz hl hcl i hi
    obtain ⟨hun, o, ho, hed⟩ := mem_ready.1 hi
    have hi' : i < ops.size := (Array.getElem?_eq_some_iff.1 ho).1
    have hik : ¬ i < k := fun e => by
      have h1 := hl i hi'
      have hlt : i < listed.size := by omega
      simp only [decide_eq_true e] at h1
      simp [Array.getD_eq_getD_getElem?, hlt] at h1 hun
      rw [h1] at hun; cases hun
    rcases Nat.lt_or_ge k i with h1 | h1
    · have := List.all_eq_true.1 hchain i (by simpa using hi')
      simp only [Bool.or_eq_true, decide_eq_true_eq] at this
      rcases this with h2 | h2
      · omega
      · have h3 := List.all_eq_true.1 h2 k (by simpa using h1)
        have h4 := clos_listed hahead hfix hcl i k hi' (fun o' ho' => by rw [ho] at ho'; cases ho'; exact hed) h3
        rw [hl k (by omega)] at h4
        simp at h4
    · omega
  intro ts
  induction ts with
  | nil =>
    intro k listed T L a w E hnk hk hts hsz hl hcl hE hst h
    refine ⟨List.eq_nil_iff_forall_not_mem.2 (fun i hi => ?_), hQ E T L a w hE h hst⟩
    have h1 := ready k listed hnk hsz hl hcl i hi
    obtain ⟨_, o, ho, _⟩ := mem_ready.1 hi
    have hi' : i < ops.size := (Array.getElem?_eq_some_iff.1 ho).1
    simp at hk; omega
  | cons t ts ih =>
    intro k listed T L a w E hnk hk hts hsz hl hcl hE hst h
    simp only [List.length_cons] at hk
    have hkl : k < ops.size := by omega
    have hmem : k ∈ Region.ready .any ops listed := by
      refine mem_ready.2 ⟨?_, ops[k], Array.getElem?_eq_getElem hkl, fun e he hbd => ?_⟩
      · have h1 := hl k hkl
        have hlt : k < listed.size := by omega
        simp [Array.getD_eq_getD_getElem?, hlt] at h1 ⊢
        exact h1
      · have := ahead_get hahead (Array.getElem?_eq_getElem hkl) he hbd
        rw [hl _ (by omega)]; simpa using this
    refine ⟨fun e => absurd hmem (by rw [e]; simp), fun i hi => ?_⟩
    have hik := ready k listed hnk hsz hl hcl i hi
    subst hik
    obtain ⟨lo, g1, g2⟩ := hget.2 i i (by simp [hkl])
    have ht : lo = t := by
      have := congrArg (fun l => l[0]?) hts
      simp only [List.getElem?_drop, Nat.add_zero, List.getElem?_cons_zero] at this
      rw [g1] at this; exact Option.some.inj this
    subst ht
    have h' : AOps P (AOps P K ts) [lo] T L := by
      obtain ⟨d, op, g⟩ := lo
      cases g <;> exact h
    exact aop1_sound g2 hst h' fun E' T' L' a' w' hle hk' hst' => by
      refine ih (i + 1) (listed.setIfInBounds i true) T' L' a' w' E' (by omega) (by omega) ?_ (by simpa using hsz) (fun j hj => ?_) ?_ (hE.trans hle) hst' hk'
      · rw [← List.drop_drop, hts]; rfl
      · by_cases e : j = i
        · subst e
          have : j < listed.size := by omega
          simp [Array.getD_eq_getD_getElem?, this]
        · rw [getD_set_ne false (Ne.symm e), hl j hj]
          congr 1
          apply propext; omega
      · intro j o' hj ho' e he hb
        have h5 := ahead_get hahead ho' he hb
        have h6 : j < ops.size := (Array.getElem?_eq_some_iff.1 ho').1
        by_cases e1 : j = i
        · subst e1
          rw [getD_set_ne false (by omega), hl _ (by omega)]
          simpa using h5
        · rw [getD_set_ne false (Ne.symm e1)] at hj
          rw [getD_set_ne false (by rw [hl j h6] at hj; simp at hj; omega)]
          exact hcl j o' hj ho' e he hb

/-- How the call's own blocks lie, by what has been done. -/
def lst (L : List Blk) (al : Option (Nat × List AV)) (listed : Array Bool) : List Blk :=
  match al with
  | some (i, z) => if listed.getD i false = true then L ++ [.cells z] else L
  | none => L

/-- **Every order**: the text's order, walked once. 'al': one operation that makes a block, any time; 'ts': a chain of operations behind all others, that may do whatever they do. -/
theorem any_sound {los : List LOper} {n : Nat} (hlow : lowOps P N own ops (List.range ops.size) = some los) (hok : drawOk ops los n = true) {qs ts : List LOper} (hsplit : los = qs ++ ts) (hn : qs.length = n) {al : Option (Nat × List AV)}
    (hal : ∀ i z, al = some (i, z) → ∃ o : LOper, qs[i]? = some o ∧ o.op = .alloc z ∧ o.guard = none)
    {K : Tm → List Blk → Prop} {T : Tm} {Q : Exit → Act → World → Prop} {E0 : Env} {tr : List AV} (htr : tr.length = qs.length)
    (hq : ∀ (i : Nat) (o : LOper) (v : AV), qs[i]? = some o → tr[i]? = some v → ((al.map (·.1)) = some i ∧ v = .ptr L.length 0) ∨ (al.map (·.1) ≠ some i ∧ ∀ L' ∈ (match al with | some (_, z) => [L, L ++ [Blk.cells z]] | none => [L]), AQ P o (TL T qs tr 0 fun j => decide (j < i)) L' v))
    (hK : AOps P K ts (TL T qs tr 0 fun _ => true) (match al with | some (_, z) => L ++ [.cells z] | none => L))
    (hQ : ∀ E' T' L' a' w', E0.le E' → K T' L' → St w0 S0 N E' T' L' a' w' → Q .normal a' w') :
    ∀ (fuel : Nat) (listed : Array Bool) (a : Act) (w : World) (E : Env), listed.size = ops.size → listed.toList.count false = fuel → Closed ops listed → E0.le E →
      (∀ i, qs.length ≤ i → listed.getD i false = false) → St w0 S0 N E (TL T qs tr 0 fun j => listed.getD j false) (lst L al listed) a w → wpAny P .any ops Q fuel listed a w := by
  simp only [drawOk, Bool.and_eq_true] at hok
  generalize htbl : ctable ops.toList [] = tbl at hok
  obtain ⟨⟨⟨⟨hdist, htied⟩, hahead⟩, hfix⟩, hchain⟩ := hok
  have lstmem : ∀ listed, lst L al listed ∈ (match al with | some (_, z) => [L, L ++ [Blk.cells z]] | none => [L]) := fun listed => by
    unfold lst
    rcases al with _ | ⟨i, z⟩
    · simp
    · simp only; split <;> simp
  have hget := lowOps_get hlow
  have hlen : los.length = ops.size := by simpa using hget.1
  have hlo : ∀ i, i < ops.size → ∃ lo, los[i]? = some lo ∧ lowOper P N own ops i = some lo := fun i hi => hget.2 i i (by simp [hi])
  have hD : Dist qs := by
    have := distB_spec hdist
    rw [hsplit] at this
    have sub : ∀ (qs ts : List LOper), Dist (qs ++ ts) → Dist qs := by
      intro qs
      induction qs with
      | nil => intro _ _; trivial
      | cons q qs ih => intro ts h; exact ⟨fun p hp => h.1 p (by simp [hp]), ih ts h.2⟩
    exact sub _ _ this
  have hqlen : qs.length + ts.length = ops.size := by rw [← hlen, hsplit]; simp
  -- a least one that is not listed is ready
  have allListed : ∀ listed : Array Bool, listed.size = ops.size → Region.ready .any ops listed = [] → ∀ i, i < ops.size → listed.getD i false = true := by
    intro listed hsz hr i
    induction i using Nat.strongRecOn with
    | _ i ih =>
      intro hi
      rcases hb : listed.getD i false with _ | _
      · exfalso
        have : i ∈ Region.ready .any ops listed := by
          refine mem_ready.2 ⟨?_, ops[i], Array.getElem?_eq_getElem hi, fun e he hbd => ?_⟩
          · have hi' : i < listed.size := by omega
            simp [Array.getD_eq_getD_getElem?, hi'] at hb ⊢
            exact hb
          · have := List.all_eq_true.1 hahead (ops[i], i) (by
              rw [List.mem_zipIdx_iff_getElem?]
              simp [hi])
            have := List.all_eq_true.1 this e (by simpa using he)
            simp only [hbd, Bool.not_true, Bool.false_or, decide_eq_true_eq] at this
            exact ih e.on this (by omega)
        rw [hr] at this; cases this
      · rfl
  have getD_eq : ∀ (listed : Array Bool) (i : Nat), listed.size = ops.size → i < ops.size → listed.getD i true = listed.getD i false := fun listed i h1 h2 => by
    have : i < listed.size := by omega
    simp [Array.getD_eq_getD_getElem?, this]
  -- when all quiet ones are listed
  have finish : ∀ (listed : Array Bool) (a : Act) (w : World) (E : Env) (fuel : Nat), listed.size = ops.size → listed.toList.count false = fuel → Closed ops listed → E0.le E → (∀ i, qs.length ≤ i → listed.getD i false = false) → St w0 S0 N E (TL T qs tr 0 fun j => listed.getD j false) (lst L al listed) a w →
      (∀ i, i < qs.length → listed.getD i false = true) → wpAny P .any ops Q fuel listed a w := by
    intro listed a w E fuel hsz hcnt hcl hE hnot hst hall
    have hTL : TL T qs tr 0 (fun j => listed.getD j false) = TL T qs tr 0 fun _ => true := TL_ext fun j hj => by
      simp only [Nat.zero_add]; exact hall j hj
    have hL : lst L al listed = (match al with | some (_, z) => L ++ [.cells z] | none => L) := by
      unfold lst
      rcases al with _ | ⟨i, z⟩
      · rfl
      · obtain ⟨o, h1, _⟩ := hal i z rfl
        simp only
        rw [if_pos (hall i (List.getElem?_eq_some_iff.1 h1).1)]
    rw [hTL, hL] at hst
    have hdrop : los.drop qs.length = ts := by rw [hsplit]; simp
    have hfuel : fuel = ts.length := by
      rw [← hcnt, ← Nat.add_left_cancel_iff (n := qs.length), hqlen, ← hsz]
      have e : listed.toList = List.replicate qs.length true ++ List.replicate (listed.size - qs.length) false := by
        apply List.ext_getElem?
        intro i
        rcases Nat.lt_or_ge i qs.length with h1 | h1
        · have := hall i h1
          have hlt : i < listed.size := by omega
          rw [List.getElem?_append_left (by simpa using h1)]
          simp [Array.getD_eq_getD_getElem?, hlt] at this
          simp [hlt, h1, this]
        · rw [List.getElem?_append_right (by simpa using h1)]
          have := hnot i h1
          rcases Nat.lt_or_ge i listed.size with h2 | h2
          · simp [Array.getD_eq_getD_getElem?, h2] at this
            simp only [List.length_replicate]
            rw [List.getElem?_replicate]
            rw [if_pos (by omega)]
            simp [h2, this]
          · rw [List.getElem?_eq_none (by simpa using h2), List.getElem?_eq_none (by simp; omega)]
      rw [e]
      simp [List.count_append, List.count_replicate]
      omega
    rw [hfuel]
    exact tail_sound hlow hahead hfix hchain hQ ts qs.length listed _ _ a w E (by omega) hqlen hdrop hsz (fun i hi => by
      rcases Nat.lt_or_ge i qs.length with h1 | h1
      · rw [hall i h1]; simpa using h1
      · rw [hnot i h1]; simpa using h1) hcl hE hst hK
  intro fuel
  induction fuel with
  | zero =>
    intro listed a w E hsz hcnt hcl hE hnot hst
    have hr : Region.ready .any ops listed = [] := by
      refine List.eq_nil_iff_forall_not_mem.2 fun i hi => ?_
      obtain ⟨h1, o, ho, _⟩ := mem_ready.1 hi
      have hi' : i < ops.size := (Array.getElem?_eq_some_iff.1 ho).1
      have : false ∈ listed.toList := by
        have hlt : i < listed.size := by omega
        simp [Array.getD_eq_getD_getElem?, hlt] at h1
        rw [← h1]; simp
      rw [List.count_eq_zero] at hcnt
      exact hcnt this
    exact finish listed a w E 0 hsz hcnt hcl hE hnot hst fun i hi => allListed listed hsz hr i (by omega)
  | succ fuel ih =>
    intro listed a w E hsz hcnt hcl hE hnot hst
    by_cases hall : ∀ i, i < qs.length → listed.getD i false = true
    · exact finish listed a w E _ hsz hcnt hcl hE hnot hst hall
    refine ⟨fun hr => absurd (fun i hi => allListed listed hsz hr i (by omega)) hall, fun i hi => ?_⟩
    obtain ⟨hun, o, ho, hedges⟩ := mem_ready.1 hi
    have hi' : i < ops.size := (Array.getElem?_eq_some_iff.1 ho).1
    have hun' : listed.getD i false = false := by rw [← getD_eq listed i hsz hi']; exact hun
    obtain ⟨lo, hlo1, hlo2⟩ := hlo i hi'
    have hready : ∀ o', ops[i]? = some o' → ∀ e ∈ o'.after, Region.binds .any e = true → listed.getD e.on false = true := fun o' ho' => by
      rw [ho] at ho'; cases ho'; exact hedges
    have hset : ∀ k, (listed.setIfInBounds i true).getD k false = if k = i then true else listed.getD k false := fun k => by
      by_cases e : k = i
      · subst e
        have : k < listed.size := by omega
        simp [Array.getD_eq_getD_getElem?, this]
      · rw [if_neg e]; exact getD_set_ne false (Ne.symm e)
    have hcnt' : (listed.setIfInBounds i true).toList.count false = fuel := by
      have hlt : i < listed.size := by omega
      have := count_set listed.toList i (by
        simp [Array.getD_eq_getD_getElem?, hlt] at hun'
        simp [hlt, hun'])
      rw [Array.toList_setIfInBounds]
      omega
    have hcl' : Closed ops (listed.setIfInBounds i true) := fun k o' hk ho' e he hb => by
      rw [hset] at hk ⊢
      by_cases e1 : e.on = i
      · rw [if_pos e1]
      · rw [if_neg e1]
        by_cases e2 : k = i
        · subst e2; exact hready o' ho' e he hb
        · rw [if_neg e2] at hk; exact hcl k o' hk ho' e he hb
    rcases Nat.lt_or_ge i qs.length with hiq | hiq
    · -- a quiet one
      have hqi : qs[i]? = some lo := by
        rw [hsplit, List.getElem?_append_left hiq] at hlo1; exact hlo1
      have hti : i < tr.length := by omega
      have agree : ∀ t ∈ lo.reads, look (TL T qs tr 0 fun j => decide (j < i)) t = look (TL T qs tr 0 fun j => listed.getD j false) t := by
        intro t ht
        by_cases hw : ∃ (j : Nat) (p : LOper), qs[j]? = some p ∧ p.dst = some t
        · obtain ⟨j, p, hp, hd⟩ := hw
          have hjq : j < qs.length := (List.getElem?_eq_some_iff.1 hp).1
          rw [TL_val hD htr hp hd, TL_val hD htr hp hd]
          have hlj : los[j]? = some p := by rw [hsplit, List.getElem?_append_left hjq]; exact hp
          have := List.all_eq_true.1 htied (lo, i) (by rw [List.mem_zipIdx_iff_getElem?]; simpa using hlo1)
          have := List.all_eq_true.1 this t ht
          have := List.all_eq_true.1 this (p, j) (by rw [List.mem_zipIdx_iff_getElem?]; simpa using hlj)
          simp only [hd, beq_self_eq_true, Bool.not_true, Bool.false_or, Bool.or_eq_true, List.contains_iff_mem] at this
          rcases this with h1 | h1
          · have e1 := clos_lt hahead hfix _ _ (by omega) h1
            have e2 := clos_listed hahead hfix hcl i j hi' hready h1
            simp only [decide_eq_true_eq, if_pos e1, if_pos e2]
          · have e1 := clos_lt hahead hfix _ _ (by omega) h1
            have e2 : listed.getD j false = false := by
              rcases hb : listed.getD j false with _ | _
              · rfl
              · have := clos_listed hahead hfix hcl j i (by omega) (fun o' ho' => hcl j o' hb ho') h1
                rw [hun'] at this; cases this
            simp only [decide_eq_true_eq, if_neg (show ¬ j < i by omega), e2, Bool.false_eq_true, if_false]
        · have hno : ∀ (j : Nat) (p : LOper), qs[j]? = some p → p.dst ≠ some t := fun j p hp hd => hw ⟨j, p, hp, hd⟩
          rw [TL_out hno, TL_out hno]
      have hTnew : ∀ (t : Nat) (v : AV), look (TL T qs tr 0 fun j => (listed.setIfInBounds i true).getD j false) t = some v → look (putT lo.dst tr[i] (TL T qs tr 0 fun j => listed.getD j false)) t = some v := by
        intro t v hv
        by_cases hw : ∃ (j : Nat) (p : LOper), qs[j]? = some p ∧ p.dst = some t
        · obtain ⟨j, p, hp, hd⟩ := hw
          rw [TL_val hD htr hp hd] at hv
          by_cases e : j = i
          · subst e
            rw [hqi] at hp; cases hp
            rw [hd, look_putT_eq]
            rw [if_pos (by rw [hset, if_pos rfl]), List.getElem?_eq_getElem hti] at hv
            exact hv
          · have hne : lo.dst ≠ some t := fun e' => e (Dist_unique hD hp hqi hd e')
            rw [look_putT_ne hne, TL_val hD htr hp hd]
            simp only [hset, if_neg e] at hv
            exact hv
        · have hno : ∀ (j : Nat) (p : LOper), qs[j]? = some p → p.dst ≠ some t := fun j p hp hd => hw ⟨j, p, hp, hd⟩
          rw [TL_out hno] at hv
          rw [look_putT_ne (hno i lo hqi), TL_out hno]
          exact hv
      have hnot' : ∀ k, qs.length ≤ k → (listed.setIfInBounds i true).getD k false = false := fun k hk => by
        rw [hset, if_neg (by omega)]; exact hnot k hk
      rcases hq i lo tr[i] hqi (List.getElem?_eq_getElem hti) with ⟨g1, g2⟩ | ⟨g1, g2⟩
      · rcases al with _ | ⟨i', z⟩
        · simp at g1
        · simp only [Option.map_some, Option.some.injEq] at g1
          subst g1
          obtain ⟨o', q1, q2, q3⟩ := hal i' z rfl
          rw [hqi] at q1; cases q1
          have hL : lst L (some (i', z)) listed = L := by
            simp only [lst]; rw [if_neg (by rw [hun']; simp)]
          have hL' : lst L (some (i', z)) (listed.setIfInBounds i' true) = L ++ [.cells z] := by
            simp only [lst]; rw [if_pos (by rw [hset, if_pos rfl])]
          rw [hL] at hst
          refine aop1_sound hlo2 hst (K := fun T' L' => T' = putT lo.dst (.ptr L.length 0) (TL T qs tr 0 fun j => listed.getD j false) ∧ L' = L ++ [.cells z]) ?_ fun E' T' L' a' w' hle ⟨e1, e2⟩ hst' => ih _ a' w' E' (by simpa using hsz) hcnt' hcl' (hE.trans hle) hnot' ?_
          · obtain ⟨d, op, g⟩ := lo
            simp only at q2 q3
            subst q2; subst q3
            exact ⟨trivial, rfl, rfl⟩
          · subst e1; subst e2
            rw [hL']
            rw [← g2] at hst'
            exact hst'.weak hTnew rfl fun _ _ e => .inr e
      · have hL : lst L al (listed.setIfInBounds i true) = lst L al listed := by
          unfold lst
          rcases al with _ | ⟨i', z⟩
          · rfl
          · simp only [Option.map_some, ne_eq, Option.some.injEq] at g1
            simp only [hset, if_neg g1]
        refine aq_sound hlo2 hst ((g2 _ (lstmem listed)).congr agree) fun E' a' w' hle hst' => ih _ a' w' E' (by simpa using hsz) hcnt' hcl' (hE.trans hle) hnot' ?_
        rw [hL]
        exact hst'.weak hTnew rfl fun _ _ e => .inr e
    · -- one of the chain: it isn't its turn
      refine absurd (fun j hj => ?_) hall
      have h1 := List.all_eq_true.1 hchain i (by simpa using hi')
      simp only [Bool.or_eq_true, decide_eq_true_eq] at h1
      rcases h1 with h2 | h2
      · omega
      · have h3 := List.all_eq_true.1 h2 j (by simp; omega)
        exact clos_listed hahead hfix hcl i j hi' hready h3
end
end Go.Proofs.YtpednpndahgleaaGreatDoor.Av
