/- Regions in any order that only look: with guarded groups taken as one. No program in sight. -/
import Derived.Test.YtpednpndahgleaaGreatDoorAvY
import Derived.Test.YtpednpndahgleaaGreatDoorAvZ
set_option linter.unusedSimpArgs false
set_option linter.unusedVariables false
namespace Go.Proofs.YtpednpndahgleaaGreatDoor.Av
open Go

theorem bnot_of {p b : Bool} (h : ¬ p = b) : p = !b := by cases p <;> cases b <;> simp_all

mutual
def okGO (g : Option (Nat × Bool)) (seen D : List Nat) : SOp → Bool
  | .op o => decide (o.guard = g) && o.reads.all (fun t => !D.contains t)
  | .grp g' t b body d x => decide (g' = g) && (g.isNone || seen.contains t) && !D.contains t && !(dstsOf (SOp.flatL body)).contains t && (match g with | some g1 => !(dstsOf (SOp.flatL body)).contains g1.1 | none => true) &&
      x.tmps.all (fun t => !(D ++ gds body).contains t) && okG (some (t, b)) [] D body
def okG (g : Option (Nat × Bool)) (seen D : List Nat) : List SOp → Bool
  | [] => true
  | s :: r => okGO g seen D s && (outsOf s).all (fun d => !(D ++ gds [s]).contains d && !(gds r).contains d && (match g with | some g1 => d != g1.1 | none => true)) && okG g (outsOf s ++ seen) (D ++ gds [s]) r
end

section
variable {P : Program} {L : List Blk} {K : Tm → List Blk → Prop}

def AR (P : Program) (K : Tm → List Blk → Prop) (l : List LOper) (L : List Blk) (T : Tm) : Prop := AG P K (l.map fun o => (o, .read 0 0)) [L] [] T
theorem AR_nil {T : Tm} (h : K T L) : AR P K [] L T := h
theorem AR_cons {o : LOper} {r : List LOper} {T : Tm} {v : AV} (h1 : AQ P o T L v) (h2 : AR P K r L (putT o.dst v T)) : AR P K (o :: r) L T := by
  refine ⟨v, fun L' hL' => ?_, h2⟩
  simp at hL'
  subst hL'; exact h1

def Agr (D : List Nat) (T T1 : Tm) : Prop := ∀ t, t ∉ D → look T1 t = look T t
theorem Agr.put {D : List Nat} {T T1 : Tm} (h : Agr D T T1) (d : Option Nat) (v : AV) : Agr D (putT d v T) (putT d v T1) := fun t ht => by
  cases d with
  | none => exact h t ht
  | some d => simp only [putT, look]; split; rfl; exact h t ht

theorem look_tup {d : Option Nat} {T : Tm} {t : Nat} (h : look T t = some (.tup [])) : look (putT d (.tup []) T) t = some (.tup []) := by
  cases d with
  | none => exact h
  | some d => simp only [putT, look]; split; rfl; exact h

mutual
/-- A group that is passed by. -/
theorem ars_one (s : SOp) {g : Nat × Bool} {seen D : List Nat} {rest : List LOper} {T : Tm} (hok : okGO (some g) seen D s = true) (hx : look T g.1 = some (.bool (!g.2)) ∨ look T g.1 = some (.tup [])) (hseen : ∀ d ∈ seen, look T d = some (.tup []))
    (hK : ∀ T', (∀ t, t ∉ dstsOf s.flat → look T' t = look T t) → (∀ d, look T d = some (.tup []) → look T' d = some (.tup [])) → (∀ d ∈ outsOf s, look T' d = some (.tup [])) → AR P K rest L T') : AR P K (s.flat ++ rest) L T := by
  have skip : ∀ (o : LOper) (T : Tm), o.guard = some g → (look T g.1 = some (.bool (!g.2)) ∨ look T g.1 = some (.tup [])) → AQ P o T L (.tup []) := fun o T hg hx => by
    obtain ⟨t, b⟩ := g
    simp only [AQ, hg]
    rcases hx with hx | hx <;> simp only at hx <;> rw [hx] <;> simp
  cases s with
  | op o =>
    simp only [okGO, Bool.and_eq_true, decide_eq_true_eq] at hok
    refine AR_cons (skip o T hok.1 hx) (hK _ (fun t ht => look_put fun e => ht (by simp [SOp.flat, dstsOf, e])) (fun d hd => look_tup hd) fun d hd => ?_)
    simp only [outsOf, Option.mem_toList] at hd
    rw [hd]; simp [putT, look]
  | grp g' t b body d x =>
    simp only [okGO, Bool.and_eq_true, decide_eq_true_eq, Option.isNone_some, Bool.false_or, Bool.not_eq_true', List.contains_eq_mem, decide_eq_false_iff_not] at hok
    obtain ⟨⟨⟨⟨⟨⟨hg', ht⟩, _⟩, htb⟩, hgb⟩, _⟩, hb⟩ := hok
    simp only [SOp.flat, List.append_assoc]
    refine ars_list body hb (.inr (hseen t (by simpa using ht))) (by simp) fun T' h1 h2 => ?_
    refine AR_cons (o := pickOf g' t b d x) (v := .tup []) (skip _ T' (by simp [pickOf, hg']) (by rw [h1 _ hgb]; exact hx)) (hK _ (fun u hu => ?_) (fun u hu => look_tup (h2 u hu)) fun u hu => ?_)
    · rw [look_put (fun e => hu (by simp only [pickOf] at e; simp [SOp.flat, dstsOf, pickOf, e]))]
      exact h1 u fun hm => hu (by simp only [SOp.flat, dstsOf, List.filterMap_append, List.mem_append]; exact .inl hm)
    · simp only [outsOf, List.mem_singleton] at hu
      subst hu; simp [pickOf, putT, look]
theorem ars_list (l : List SOp) {g : Nat × Bool} {seen D : List Nat} {rest : List LOper} {T : Tm} (hok : okG (some g) seen D l = true) (hx : look T g.1 = some (.bool (!g.2)) ∨ look T g.1 = some (.tup [])) (hseen : ∀ d ∈ seen, look T d = some (.tup []))
    (hK : ∀ T', (∀ t, t ∉ dstsOf (SOp.flatL l) → look T' t = look T t) → (∀ d, look T d = some (.tup []) → look T' d = some (.tup [])) → AR P K rest L T') : AR P K (SOp.flatL l ++ rest) L T := by
  cases l with
  | nil => exact hK T (fun _ _ => rfl) (fun _ h => h)
  | cons s r =>
    simp only [okG, Bool.and_eq_true, List.all_eq_true, Bool.not_eq_true', bne_iff_ne] at hok
    obtain ⟨⟨h1, h2⟩, h3⟩ := hok
    simp only [SOp.flatL, List.append_assoc]
    refine ars_one s h1 hx hseen fun T' e1 e2 e3 => ?_
    have hx' : look T' g.1 = some (.bool (!g.2)) ∨ look T' g.1 = some (.tup []) := by
      by_cases hm : g.1 ∈ dstsOf s.flat
      · cases s with
        | op o =>
          simp only [dstsOf, SOp.flat, List.filterMap_cons, List.filterMap_nil] at hm
          cases hd : o.dst with
          | none => simp [hd] at hm
          | some d =>
            simp [hd] at hm
            exact absurd hm.symm (h2 d (by simp [outsOf, hd])).2
        | grp g' t b body d x =>
          simp only [okGO, Bool.and_eq_true, Bool.not_eq_true', List.contains_eq_mem, decide_eq_false_iff_not] at h1
          simp only [dstsOf, SOp.flat, List.filterMap_append, List.mem_append] at hm
          rcases hm with hm | hm
          · exact absurd hm h1.1.1.2
          · simp [pickOf] at hm
            exact absurd hm.symm (h2 d (by simp [outsOf])).2
      · exact hx.imp (fun h => by rw [e1 _ hm]; exact h) (e2 _)
    refine ars_list r h3 hx' (fun d hd => ?_) fun T'' f1 f2 => hK T'' (fun t ht => ?_) (fun d hd => f2 d (e2 d hd))
    · rcases List.mem_append.1 hd with hd | hd
      · exact e3 d hd
      · exact e2 d (hseen d hd)
    · simp only [SOp.flatL, dstsOf, List.filterMap_append, List.mem_append, not_or] at ht
      rw [f1 t ht.2, e1 t ht.1]
end

def outsL (l : List SOp) : List Nat := l.flatMap outsOf
theorem outsL_sub : ∀ (l : List SOp), ∀ d ∈ outsL l, d ∈ dstsOf (SOp.flatL l)
  | [], d, h => by simp [outsL] at h
  | s :: r, d, h => by
    simp only [outsL, List.flatMap_cons, List.mem_append] at h
    simp only [SOp.flatL, dstsOf, List.filterMap_append, List.mem_append]
    exact h.imp (outs_sub s d) (outsL_sub r d)

theorem GOp_AQ {o : LOper} {k : Tm → Prop} {T : Tm} (h : GOp P L o k T) : ∃ v, AQv P o T L v ∧ k (putT o.dst v T) := by
  obtain ⟨d, op, gd⟩ := o
  simp only [GOp] at h
  unfold AQv
  cases op
  case call f xs =>
    simp only at h ⊢
    cases he : evXs T xs with
    | none => rw [he] at h; exact h.elim
    | some args => rw [he] at h; obtain ⟨v, h1, h2⟩ := h; exact ⟨v, h1, h2⟩
  case callv f xs =>
    simp only at h ⊢
    cases hf : evX T f with
    | none => rw [hf] at h; exact h.elim
    | some u =>
      rw [hf] at h
      cases he : evXs T xs with
      | none => rw [he] at h; cases u <;> exact h.elim
      | some args =>
        rw [he] at h
        cases u <;> simp only [GCalv] at h
        obtain ⟨v, h1, h2⟩ := h
        exact ⟨v, h1, h2⟩
  all_goals
    simp only at h ⊢
    generalize evalOp T L _ = r at h ⊢
    cases r with
    | none => exact h.elim
    | some r =>
      obtain ⟨c, av, L'⟩ := r
      exact ⟨av, ⟨h.1, rfl, h.2.1⟩, h.2.2⟩

mutual
theorem ar_one (s : SOp) {g : Option (Nat × Bool)} {seen D : List Nat} {rest : List LOper} {T T1 : Tm} {k : Tm → Prop} (hok : okGO g seen D s = true) (hx : ∀ g1, g = some g1 → g1.1 ∉ D ∧ look T g1.1 = some (.bool g1.2)) (hfr : ∀ d ∈ gds [s], look T d = none) (ha : Agr D T T1) (h : GO P L s k T)
    (hK : ∀ T' T1', k T' → Agr (D ++ gds [s]) T' T1' → (∀ t, t ∉ outsOf s → look T' t = look T t) → AR P K rest L T1') : AR P K (s.flat ++ rest) L T1 := by
  cases s with
  | op o =>
    simp only [okGO, Bool.and_eq_true, decide_eq_true_eq, List.all_eq_true, Bool.not_eq_true', List.contains_eq_mem, decide_eq_false_iff_not] at hok
    simp only [GO] at h
    obtain ⟨v, h1, h2⟩ := GOp_AQ h
    have hq : AQ P o T L v := by
      unfold AQ
      rw [hok.1]
      cases g with
      | none => exact h1
      | some g1 =>
        obtain ⟨t, b⟩ := g1
        have := (hx _ rfl).2
        simp only at this ⊢
        rw [this]; simp [h1]
    refine AR_cons (hq.congr fun t ht => (ha t (hok.2 t ht)).symm) (hK _ _ h2 (fun t ht => ?_) fun t ht => look_put fun e => ht (by simp [outsOf, e]))
    exact (ha.put _ _) t fun hm => ht (List.mem_append_left _ hm)
  | grp g' t b body d x =>
    simp only [okGO, Bool.and_eq_true, decide_eq_true_eq, List.all_eq_true, Bool.not_eq_true', List.contains_eq_mem, decide_eq_false_iff_not] at hok
    obtain ⟨⟨⟨⟨⟨⟨hg', _⟩, htD⟩, htb⟩, hgb⟩, hxD⟩, hb⟩ := hok
    simp only [GO] at h
    have hfr' : ∀ u ∈ dstsOf (SOp.flatL body), look T u = none := fun u hu => hfr u (by simp [gds, hu])
    have hgd : gds [SOp.grp g' t b body d x] = dstsOf (SOp.flatL body) := by simp [gds]
    rw [hgd] at hK
    simp only [SOp.flat, List.append_assoc]
    -- the pick
    have fin : ∀ {T1b : Tm} (p q : Bool), look T t = some (.bool p) → (∀ u, u ∉ D → u ∉ dstsOf (SOp.flatL body) → look T1b u = look T u) → (p = b → evX T1b x = some (.bool q)) → k ((d, .bool (mrg b p q)) :: T) → AR P K ([pickOf g' t b d x] ++ rest) L T1b := fun {T1b} p q hp hT hq hk => by
      have hv : evalOp T1b L (.pick (.tmp t) (if b then x else .av (.bool true)) (if b then .av (.bool false) else x)) = some (True, .bool (mrg b p q), L) := by
        have ht' : look T1b t = some (.bool p) := by rw [hT t htD htb]; exact hp
        cases b <;> cases p <;> simp [evalOp, evX, ht', mrg] <;> exact hq rfl
      have hqv : AQv P (pickOf g' t b d x) T1b L (.bool (mrg b p q)) := by
        simp only [AQv, pickOf, hv, and_self]
      have hq : AQ P (pickOf g' t b d x) T1b L (.bool (mrg b p q)) := by
        unfold AQ
        cases g with
        | none => simp only [pickOf, hg']; exact hqv
        | some g1 =>
          obtain ⟨t1, b1⟩ := g1
          have h1 := hx _ rfl
          simp only [pickOf, hg']
          rw [show look T1b t1 = some (.bool b1) by rw [hT t1 h1.1 (by simpa using hgb)]; exact h1.2]
          simp; exact hqv
      refine AR_cons hq (hK ((d, .bool (mrg b p q)) :: T) _ hk (fun u hu => ?_) fun u hu => ?_)
      · simp only [List.mem_append, not_or] at hu
        simp only [pickOf, putT, look]
        split
        · rfl
        · exact hT u hu.1 hu.2
      · simp only [outsOf, List.mem_singleton] at hu
        simp only [look]; rw [if_neg (Ne.symm hu)]
    rcases hp : look T t with _ | u
    · rw [hp] at h; exact h.elim
    rw [hp] at h
    cases u <;> try exact h.elim
    rename_i p
    obtain ⟨q, hq, hk⟩ := h
    by_cases e : p = b
    · subst e
      refine ar_list body hb (fun g1 e => by cases e; exact ⟨htD, hp⟩) (fun u hu => hfr' u (gds_sub body u hu)) ha (hq rfl) fun Tb T1b hxb hab hTb => fin p q hp (fun u h1 h2 => ?_) (fun _ => ?_) hk
      · rw [hab u (by simp only [List.mem_append, not_or]; exact ⟨h1, fun hm => h2 (gds_sub body u hm)⟩)]
        exact hTb u fun hm => h2 (outsL_sub body u hm)
      · have hxb' : evX Tb x = some (.bool q) := hxb
        rw [← hxb']
        cases x with
        | av a => rfl
        | tmp t' => exact hab t' (by have := hxD t' (by simp [Opd.tmps]); simpa using this)
    · have : p = !b := bnot_of e
      refine ars_list body hb (.inl (by show look T1 t = _; rw [ha t htD, hp, this])) (by simp) fun T1b h1 _ => fin p q hp (fun u h2 h3 => ?_) (fun e' => absurd e' e) hk
      rw [h1 u h3, ha u h2]
theorem ar_list (l : List SOp) {g : Option (Nat × Bool)} {seen D : List Nat} {rest : List LOper} {T T1 : Tm} {k : Tm → Prop} (hok : okG g seen D l = true) (hx : ∀ g1, g = some g1 → g1.1 ∉ D ∧ look T g1.1 = some (.bool g1.2)) (hfr : ∀ d ∈ gds l, look T d = none) (ha : Agr D T T1) (h : GL P L l k T)
    (hK : ∀ T' T1', k T' → Agr (D ++ gds l) T' T1' → (∀ t, t ∉ outsL l → look T' t = look T t) → AR P K rest L T1') : AR P K (SOp.flatL l ++ rest) L T1 := by
  cases l with
  | nil =>
    rw [GL] at h
    exact hK T T1 h (by simpa [gds] using ha) (fun _ _ => rfl)
  | cons s r =>
    simp only [okG, Bool.and_eq_true, List.all_eq_true, Bool.not_eq_true', List.contains_eq_mem, decide_eq_false_iff_not] at hok
    obtain ⟨⟨h1, h2'⟩, h3⟩ := hok
    have h2 : ∀ d ∈ outsOf s, d ∉ gds r := fun d hd => (h2' d hd).1.2
    simp only [SOp.flatL, List.append_assoc]
    rw [GL] at h
    rw [gds_cons] at hfr hK
    refine ar_one s h1 hx (fun d hd => hfr d (List.mem_append_left _ hd)) ha h fun T' T1' hk e1 e2 => ?_
    refine ar_list r h3 (fun g1 hg => ?_) (fun d hd => ?_) e1 hk fun T'' T1'' hk' f1 f2 => hK T'' T1'' hk' (by rwa [List.append_assoc] at f1) fun t ht => ?_
    · subst hg
      have hne : g1.1 ∉ outsOf s := fun hm => by
        have := (h2' _ hm).2
        simp at this
      have hng : g1.1 ∉ gds [s] := fun hm => by
        cases s with
        | op o => simp [gds] at hm
        | grp g' t b body d x =>
          simp only [okGO, Bool.and_eq_true, Bool.not_eq_true', List.contains_eq_mem, decide_eq_false_iff_not] at h1
          simp only [gds, List.append_nil] at hm
          exact h1.1.1.2 hm
      have h4 := hx g1 rfl
      exact ⟨by simp only [List.mem_append, not_or]; exact ⟨h4.1, hng⟩, by rw [e2 _ hne]; exact h4.2⟩
    · rw [e2 d (fun hm => h2 d hm hd)]
      exact hfr d (List.mem_append_right _ hd)
    · simp only [outsL, List.flatMap_cons, List.mem_append, not_or] at ht
      rw [f2 t ht.2, e2 t ht.1]
end

theorem okG_outs : ∀ (l : List SOp) {g : Option (Nat × Bool)} {seen D : List Nat}, okG g seen D l = true → ∀ t ∈ outsL l, t ∉ D ++ gds l
  | [], _, _, _, _, t, h => by simp [outsL] at h
  | s :: r, g, seen, D, hok, t, h => by
    simp only [okG, Bool.and_eq_true, List.all_eq_true, Bool.not_eq_true', List.contains_eq_mem, decide_eq_false_iff_not] at hok
    obtain ⟨⟨h1, h2⟩, h3⟩ := hok
    rw [gds_cons]
    simp only [outsL, List.flatMap_cons, List.mem_append] at h
    rcases h with h | h
    · have := (h2 t h).1
      simp only [List.mem_append, not_or] at this ⊢
      exact ⟨this.1.1, this.1.2, this.2⟩
    · have := okG_outs r h3 t h
      simp only [List.mem_append, not_or] at this ⊢
      exact ⟨this.1.1, this.1.2, this.2⟩

/-- Such a region. -/
theorem ar_region {l : List SOp} {T : Tm} {k : Tm → Prop} (hok : okG none [] [] l = true) (hfr : Fr (gds l) T) (h : GL P L l k T) : AR P (fun T1 L' => L' = L ∧ ∃ T', k T' ∧ ∀ t v, look T' t = some v → look T1 t = some v) (SOp.flatL l) L T := by
  have := ar_list (K := fun T1 L' => L' = L ∧ ∃ T', k T' ∧ ∀ t v, look T' t = some v → look T1 t = some v) (rest := []) l hok (fun _ e => by cases e) hfr (T1 := T) (fun _ _ => rfl) h fun T' T1' hk e1 e2 => AR_nil ⟨rfl, T', hk, fun t v hv => ?_⟩
  · simpa using this
  · by_cases hm : t ∈ gds l
    · by_cases ho : t ∈ outsL l
      · exact absurd (by simpa using hm) (okG_outs l hok t ho)
      · rw [e2 t ho, hfr t hm] at hv; cases hv
    · rw [e1 t (by simpa using hm)]; exact hv
end
end Go.Proofs.YtpednpndahgleaaGreatDoor.Av
