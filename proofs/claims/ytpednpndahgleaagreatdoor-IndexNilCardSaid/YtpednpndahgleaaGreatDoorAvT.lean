/- The walk: rules for loops, for rows that grow, for places that nobody needs any more. No program in sight. -/
import Derived.Test.YtpednpndahgleaaGreatDoorAvQ
set_option linter.unusedSimpArgs false
set_option linter.unusedVariables false
namespace Go.Proofs.YtpednpndahgleaaGreatDoor.Av
open Go

theorem ite_intro {p : Prop} [Decidable p] {A B : Prop} (h1 : p → A) (h2 : ¬ p → B) : if p then A else B := by
  by_cases h : p
  · rw [if_pos h]; exact h1 h
  · rw [if_neg h]; exact h2 h

theorem ite_introN {p : Prop} [Decidable p] {A B : Prop} (h1 : p → B) (h2 : ¬ p → A) : if ¬ p then A else B := by
  by_cases h : p
  · rw [if_neg (fun e => e h)]; exact h1 h
  · rw [if_pos h]; exact h2 h

def BackR (L0 L' : List Blk) (Q : AV → List Blk → Prop) : Option (Prop × List AV) → Prop
  | some (c, rs) => c ∧ Fin L0 (retA rs) L' Q
  | none => False
theorem BackR_some {L0 L' : List Blk} {Q : AV → List Blk → Prop} {c : Prop} {rs : List AV} : BackR L0 L' Q (some (c, rs)) = (c ∧ Fin L0 (retA rs) L' Q) := rfl
theorem Back_retR {res : List LRes} {L0 L' : List Blk} {T : Tm} {Q : AV → List Blk → Prop} (h : BackR L0 L' Q (resA T L' res)) : Back res L0 Q .ret T L' := by
  rcases hr : resA T L' res with _ | ⟨c, rs⟩
  · rw [hr] at h; exact h.elim
  · rw [hr] at h; exact Back_ret hr h.1 h.2
theorem Back_endR {res : List LRes} {L0 L' : List Blk} {T : Tm} {Q : AV → List Blk → Prop} (h : BackR L0 L' Q (resA T L' res)) : Back res L0 Q .normal T L' := by
  rcases hr : resA T L' res with _ | ⟨c, rs⟩
  · rw [hr] at h; exact h.elim
  · rw [hr] at h; exact Back_end hr h.1 h.2

/-- A fact that the walk leaves alone. -/
def Hid (p : Prop) : Prop := p
theorem hid {p : Prop} (h : p) : Hid p := h
theorem Hid.out {p : Prop} (h : Hid p) : p := h

theorem Kto {K : AV → List Blk → Prop} {L : List Blk} {a b : AV} (h : K a L) (e : a = b) : K b L := e ▸ h

/-- All that T' tells, T tells: as it is, or as it reads to others. -/
def SubT (T' T : Tm) : Prop := ∀ p ∈ T', ∃ v, look T p.1 = some v ∧ (p.2 = v ∨ p.2 = v.frz)

theorem look_mem : ∀ {T : Tm} {t : Nat} {v : AV}, look T t = some v → (t, v) ∈ T
  | [], t, v, h => by simp [look] at h
  | (d, u) :: T, t, v, h => by
    simp only [look] at h
    split at h
    · rename_i e; subst e; simp at h; subst h; simp
    · exact List.mem_cons_of_mem _ (look_mem h)

theorem TR.sub {E : Env} {T T' : Tm} {a : Act} (r : TR E T a) (h : SubT T' T) : TR E T' a := fun t v hv => by
  obtain ⟨u, h1, h2⟩ := h _ (look_mem hv)
  have := r t u h1
  rcases h2 with h2 | h2
  · simp only at h2; subst h2; exact this
  · simp only at h2; subst h2; exact VR.frz _ _ this

theorem SubT_nil {T : Tm} : SubT [] T := fun p h => by cases h
theorem SubT_cons {T T' : Tm} {t : Nat} {v u : AV} (h : look T t = some u) (e : v = u) (h' : SubT T' T) : SubT ((t, v) :: T') T := fun p hp => by
  rcases List.mem_cons.1 hp with rfl | hp
  · exact ⟨u, h, .inl e⟩
  · exact h' p hp
theorem SubT_consF {T T' : Tm} {t : Nat} {v u : AV} (h : look T t = some u) (e : v = u.frz) (h' : SubT T' T) : SubT ((t, v) :: T') T := fun p hp => by
  rcases List.mem_cons.1 hp with rfl | hp
  · exact ⟨u, h, .inr e⟩
  · exact h' p hp

/-- The state (T, L), weakened: fewer temporaries, fewer places. -/
def Cut (B : Nat) (T' : Tm) (L' : List Blk) (T : Tm) (L : List Blk) : Prop :=
  SubT T' T ∧ ∃ X, L = L' ++ X ∧ B ≤ L'.length ∧ (X = [] ∨ ((∀ p ∈ T', p.2.refs (fun i => decide (i < L'.length)) = true) ∧ ∀ k ∈ L', k.refs (fun i => decide (i < L'.length)) = true))

theorem Cut_same {B : Nat} {T' T : Tm} {L : List Blk} (h : SubT T' T) (hB : B ≤ L.length) : Cut B T' L T L := ⟨h, [], by simp, hB, .inl rfl⟩
theorem Cut_drop {B : Nat} {T' T : Tm} {L' X : List Blk} (h : SubT T' T) (hB : B ≤ L'.length) (h1 : ∀ p ∈ T', p.2.refs (fun i => decide (i < L'.length)) = true) (h2 : ∀ k ∈ L', k.refs (fun i => decide (i < L'.length)) = true) : Cut B T' L' T (L' ++ X) :=
  ⟨h, X, rfl, hB, .inr ⟨h1, h2⟩⟩

section
variable {P : Program} {w0 : World} {S0 : Nat → Prop} {N : Nat} {own : Nat → Nat → Nat} {Q : Exit → Tm → List Blk → Prop} {T : Tm} {L : List Blk}

theorem Rel.none_of {E : Env} {w : World} (h : Rel w0 S0 E L w) : ∀ i, L.length ≤ i → E.loc i = none ∧ E.tok i = none := fun i hi => ⟨h.fresh i hi, h.tkfresh i hi⟩

theorem St.cut {E0 E : Env} {a : Act} {w : World} {T' : Tm} {L' : List Blk} {B : Nat} (h0 : E0.le E) (hB : ∀ i, B ≤ i → E0.loc i = none ∧ E0.tok i = none) (h : St w0 S0 N E T L a w) (hc : Cut B T' L' T L) : ∃ E', E0.le E' ∧ St w0 S0 N E' T' L' a w := by
  obtain ⟨hs, X, rfl, hlen, hx⟩ := hc
  rcases hx with rfl | ⟨h1, h2⟩
  · exact ⟨E, h0, by simpa using h.1, h.2.1.sub hs, h.2.2⟩
  · refine ⟨E.res L'.length id, res_le h0 hB hlen id (fun _ _ => rfl), h.1.cut h2, fun t v hv => ?_, h.2.2⟩
    have := (h.2.1.sub hs) t v hv
    refine VR.cut (E := E) (E' := E.res L'.length id) (p := fun i => decide (i < L'.length)) (fun _ _ _ x => x) (fun i c hi hc => ?_) (fun i c hi hc => ?_) v _ (h1 _ (look_mem hv)) this
    · rw [Env.res_loc (by simpa using hi)]; exact hc
    · rw [Env.res_tok (by simpa using hi)]; exact hc

/-- The next round's head: what holds there, lower. -/
def Nxt (B n : Nat) (I : Nat → Tm → List Blk → Prop) (T1 : Tm) (L1 : List Blk) : Prop := ∃ m T2 L2, m < n ∧ Cut B T2 L2 T1 L1 ∧ I m T2 L2
/-- What holds between two statements. -/
def Mid (B : Nat) (R : Tm → List Blk → Prop) (T1 : Tm) (L1 : List Blk) : Prop := ∃ T2 L2, Cut B T2 L2 T1 L1 ∧ R T2 L2
theorem Nxt_mk {B n : Nat} {I : Nat → Tm → List Blk → Prop} {T1 : Tm} {L1 : List Blk} (m : Nat) (T2 : Tm) (L2 : List Blk) (h1 : m < n) (h2 : Cut B T2 L2 T1 L1) (h3 : I m T2 L2) : Nxt B n I T1 L1 := ⟨m, T2, L2, h1, h2, h3⟩
theorem Mid_mk {B : Nat} {R : Tm → List Blk → Prop} {T1 : Tm} {L1 : List Blk} (T2 : Tm) (L2 : List Blk) (h2 : Cut B T2 L2 T1 L1) (h3 : R T2 L2) : Mid B R T1 L1 := ⟨T2, L2, h2, h3⟩

/-- A loop: what holds at each round's head (I), of few temporaries and places. -/
theorem AW_loopT {x : LCode} (I : Nat → Tm → List Blk → Prop) {n0 : Nat} {T0 : Tm} {L0 : List Blk} (hc0 : Cut L.length T0 L0 T L) (h0 : I n0 T0 L0)
    (round : ∀ n T' L', I n T' L' → AW P N own x (Qthen (Nxt L.length n I) Q) T' L') : AW P N own (.loop x) Q T L := fun c hc w0 S0 E a w hst => by
  classical
  obtain ⟨c1, rfl, h1⟩ := inv_loop hc
  have hB := hst.1.none_of
  let J : Act → World → Nat → Prop := fun a w n => ∃ E' T' L', E.le E' ∧ I n T' L' ∧ St w0 S0 N E' T' L' a w
  have least : ∀ a w, ∃ m, (∃ n, J a w n) → J a w m ∧ ∀ k, J a w k → m ≤ k := fun a w => by
    by_cases h : ∃ n, J a w n
    · obtain ⟨n, hn⟩ := h
      obtain ⟨m, h1, h2⟩ := exists_least (J a w) n hn
      exact ⟨m, fun _ => ⟨h1, h2⟩⟩
    · exact ⟨0, fun h' => absurd h' h⟩
  let μ : Act → World → Nat := fun a w => Classical.choose (least a w)
  have hμ : ∀ a w, (∃ n, J a w n) → J a w (μ a w) ∧ ∀ k, J a w k → μ a w ≤ k := fun a w => Classical.choose_spec (least a w)
  obtain ⟨E1, e1, e2⟩ := hst.cut (.refl E) hB hc0
  refine wp_loop (fun a w => ∃ n, J a w n) μ ⟨n0, E1, _, _, e1, h0, e2⟩ fun a w hJ => ?_
  obtain ⟨⟨E', T', L', g1, g2, g3⟩, _⟩ := hμ a w hJ
  refine wp_mono (round _ T' L' g2 c1 h1 w0 S0 E' a w g3) fun e a' w' ⟨E'', T'', L'', k1, k2, k3⟩ => ?_
  cases e
  · obtain ⟨m, T2, L2, hm, hcut, hI⟩ := k2
    obtain ⟨E3, q1, q2⟩ := k3.cut (g1.trans k1) hB hcut
    have hJ' : J a' w' m := ⟨E3, T2, L2, q1, hI, q2⟩
    exact ⟨⟨m, hJ'⟩, Nat.lt_of_le_of_lt ((hμ a' w' ⟨m, hJ'⟩).2 m hJ') hm⟩
  all_goals exact ⟨E'', T'', L'', g1.trans k1, k2, k3⟩

/-- Fewer temporaries, fewer places, from here on. -/
theorem AW_weak {lc : LCode} {T' : Tm} {L' : List Blk} (hc : Cut L.length T' L' T L) (h : AW P N own lc Q T' L') : AW P N own lc Q T L := fun c hl w0 S0 E a w hst => by
  obtain ⟨E1, e1, e2⟩ := hst.cut (.refl E) hst.1.none_of hc
  exact wp_mono (h c hl w0 S0 E1 a w e2) fun e a' w' ⟨E', T1, L1, k1, k2, k3⟩ => ⟨E', T1, L1, e1.trans k1, k2, k3⟩

theorem AW_refs {lc : LCode} (h : (∀ k ∈ L, k.refs (fun i => decide (i < L.length)) = true) → AW P N own lc Q T L) : AW P N own lc Q T L := fun c hl w0 S0 E a w hst =>
  h hst.1.refs c hl w0 S0 E a w hst

/-- Two statements, with what holds between them (R), of few temporaries and places. -/
theorem AW_seqM {x y : LCode} (R : Tm → List Blk → Prop) (h : AW P N own x (Qthen (Mid L.length R) Q) T L) (hq : ∀ T2 L2, R T2 L2 → L.length ≤ L2.length → AW P N own y Q T2 L2) : AW P N own (.seq x y) Q T L := fun c hc w0 S0 E a w hst => by
  obtain ⟨c1, c2, rfl, h1, h2⟩ := inv_seq hc
  refine wp_seq (wp_mono (h c1 h1 w0 S0 E a w hst) fun e a' w' ⟨E', T', L', g1, g2, g3⟩ => ?_)
  cases e
  · obtain ⟨T2, L2, k1, k2⟩ := g2
    obtain ⟨E3, q1, q2⟩ := g3.cut g1 hst.1.none_of k1
    obtain ⟨_, X, _, hlen, _⟩ := k1
    exact wp_mono (hq T2 L2 k2 hlen c2 h2 w0 S0 E3 a' w' q2) fun e a'' w'' ⟨E4, T4, L4, k1, k2, k3⟩ => ⟨E4, T4, L4, q1.trans k1, k2, k3⟩
  all_goals exact ⟨E', T', L', g1, g2, g3⟩

theorem TR.cons {E : Env} {a : Act} {t : Nat} {v : AV} (r : TR E T a) (hv : VR E v (a.tmps.getD t undef)) : TR E ((t, v) :: T) a := fun t' v' h => by
  simp only [look] at h
  split at h
  · rename_i e; subst e; simp at h; subst h; exact hv
  · exact r t' v' h

/-- A full row may grow from now on. -/
theorem AW_grow {lc : LCode} (t sz : Nat) {l : List AV} {n : Nat} (h1 : look T t = some (.sl l n (some n))) (h2 : l.length = n * sz) (h : AW P N own lc Q ((t, .gsl l n L.length sz) :: T) (L ++ [.spare n sz])) : AW P N own lc Q T L := fun c hl w0 S0 E a w hst => by
  obtain ⟨r1, r2⟩ := hst.1.addtok (n := n) (sz := sz) (lc := none) Room_none
  have hv := hst.2.1 t _ h1
  have hT := hst.2.1.mono r1
  refine wp_mono (h c hl w0 S0 _ a w ⟨r2, hT.cons ?_, hst.2.2⟩) fun e a' w' ⟨E', T1, L1, k1, k2, k3⟩ => ⟨E', T1, L1, r1.trans k1, k2, k3⟩
  have hv' := VR.mono r1 _ _ hv
  generalize a.tmps.getD t undef = v at hv'
  simp only [VR] at hv' ⊢
  obtain ⟨p, c', q1, q2, q3, q4⟩ := hv'
  exact ⟨p, c', q1, q2, h2, q4, ⟨n, sz, none⟩, by simp, Nat.le_refl _, fun _ => ⟨rfl, fun _ => q3 n rfl, by simp⟩⟩

/-- What capacity a slice has: some. -/
theorem AW_cap {lc : LCode} (t : Nat) {i off n sz : Nat} (h1 : look T t = some (.lsl i off n none sz)) (h : ∀ cp, n ≤ cp → AW P N own lc Q ((t, .lsl i off n (some cp) sz) :: T) L) : AW P N own lc Q T L := fun c hl w0 S0 E a w hst => by
  have hv := hst.2.1 t _ h1
  simp only [VR] at hv
  obtain ⟨k, rc, d, q1, q2, q3, q4, _, q6⟩ := hv
  refine h rc q4 c hl w0 S0 E a w ⟨hst.1, hst.2.1.cons ?_, hst.2.2⟩
  simp only [VR]
  exact ⟨k, rc, d, q1, q2, q3, q4, fun k hk => by cases hk; rfl, q6⟩

/-- The room behind a row is a part of it. -/
theorem AW_ext {lc : LCode} (t : Nat) {i off n sz cp : Nat} {l : List AV} (h1 : look T t = some (.lsl i off n (some cp) sz)) (hL : L[i]? = some (.cells l)) (hcp : 0 < cp) (h : AW P N own lc Q T (L.set i (.cells (l ++ List.replicate (off + cp * sz - l.length) .undef)))) : AW P N own lc Q T L := fun c hl w0 S0 E a w hst => by
  have hv := hst.2.1 t _ h1
  simp only [VR] at hv
  obtain ⟨k, rc, d, q1, q2, q3, q4, q5, q6⟩ := hv
  have := q5 cp rfl; subst this
  obtain ⟨k', cs, ty, fr, b1, b2, b3, b4, b5, b6⟩ := hst.1.blk i _ hL
  rw [q1] at b1; cases b1
  refine h c hl w0 S0 E a w ⟨hst.1.turn hL rfl q1 rfl (fun _ _ => rfl) rfl rfl rfl ?_ (by simp), hst.2.1, hst.2.2⟩
  refine ⟨k, cs, ty, fr, q1, b2, b3, by simp; omega, fun j a ha => ?_, b6⟩
  rw [List.getElem?_append] at ha
  split at ha
  · exact b5 j a ha
  · have hj : j - l.length < off + rc * sz - l.length := by
      have := (List.getElem?_eq_some_iff.1 ha).1; simpa using this
    rw [List.getElem?_replicate, if_pos hj] at ha
    cases ha
    have hlt : k.off + j < cs.size := by omega
    exact ⟨cs[k.off + j], Array.getElem?_eq_getElem hlt, by simp [VR]⟩

/-- A fact that holds of a state, whatever it is. -/
theorem AW_condB {x : Opd} {y z : LCode} {p : Prop} [Decidable p] (hx : evX T x = some (.bool (decide p))) (ht : p → AW P N own y Q T L) (hf : ¬ p → AW P N own z Q T L) : AW P N own (.cond x y z) Q T L :=
  AW_cond hx (fun e => ht (of_decide_eq_true e)) (fun e => hf (of_decide_eq_false e))
theorem AW_condN {x : Opd} {y z : LCode} {p : Prop} [Decidable p] (hx : evX T x = some (.bool (!decide p))) (ht : ¬ p → AW P N own y Q T L) (hf : p → AW P N own z Q T L) : AW P N own (.cond x y z) Q T L :=
  AW_cond hx (fun e => ht (of_decide_eq_false (by simpa using e))) (fun e => hf (of_decide_eq_true (by simpa using e)))

end

/-! regions in any order, as they are reckoned with -/

section
variable {P : Program} {K : Tm → Prop} {L L1 : List Blk} {Ls : List (List Blk)} {p : AV} {d : Option Nat} {op : LOp} {rest : List LOper} {T : Tm} {t : Nat} {b : Bool} {al : Option Nat} {n : Nat}

def Res1 (L : List Blk) (k : AV → Prop) : Option (Prop × AV × List Blk) → Prop
  | some (c, av, L') => c ∧ L' = L ∧ k av
  | none => False
theorem Res1_some {k : AV → Prop} {c : Prop} {av : AV} {L' : List Blk} : Res1 L k (some (c, av, L')) = (c ∧ L' = L ∧ k av) := rfl
def Res2 (L L1 : List Blk) (k : AV → Prop) : Option (Prop × AV × List Blk) → Option (Prop × AV × List Blk) → Prop
  | some (c, av, L'), some (c2, av2, L2) => c ∧ L' = L ∧ c2 ∧ av2 = av ∧ L2 = L1 ∧ k av
  | _, _ => False
theorem Res2_some {k : AV → Prop} {c c2 : Prop} {av av2 : AV} {L' L2 : List Blk} : Res2 L L1 k (some (c, av, L')) (some (c2, av2, L2)) = (c ∧ L' = L ∧ c2 ∧ av2 = av ∧ L2 = L1 ∧ k av) := rfl
def Cal1 (P : Program) (f : FuncId) (L : List Blk) (k : AV → Prop) : Option (List AV) → Prop
  | some args => ∃ v, ACall P f args L (fun av L' => av = v ∧ L' = L) ∧ k v
  | none => False
theorem Cal1_some {f : FuncId} {k : AV → Prop} {args : List AV} : Cal1 P f L k (some args) = ∃ v, ACall P f args L (fun av L' => av = v ∧ L' = L) ∧ k v := rfl
def Cal2 (P : Program) (f : FuncId) (L L1 : List Blk) (k : AV → Prop) : Option (List AV) → Prop
  | some args => ∃ v, ACall P f args L (fun av L' => av = v ∧ L' = L) ∧ ACall P f args L1 (fun av L' => av = v ∧ L' = L1) ∧ k v
  | none => False
theorem Cal2_some {f : FuncId} {k : AV → Prop} {args : List AV} : Cal2 P f L L1 k (some args) = ∃ v, ACall P f args L (fun av L' => av = v ∧ L' = L) ∧ ACall P f args L1 (fun av L' => av = v ∧ L' = L1) ∧ k v := rfl
def GrdQ (b : Bool) (y n : Prop) : Option AV → Prop
  | some (.bool x) => if x = b then y else n
  | some (.tup []) => n
  | _ => False
theorem GrdQ_bool {b x : Bool} {y n : Prop} : GrdQ b y n (some (.bool x)) = if x = b then y else n := rfl
theorem GrdQ_tup {b : Bool} {y n : Prop} : GrdQ b y n (some (.tup [])) = n := rfl

/-- A call that only looks. -/
def CalK2 (P : Program) (f : FuncId) (args : List AV) (L L1 : List Blk) (k : AV → Prop) : Prop := ∃ v, ACall P f args L (fun av L' => av = v ∧ L' = L) ∧ ACall P f args L1 (fun av L' => av = v ∧ L' = L1) ∧ k v
theorem CalK2_mk {f : FuncId} {args : List AV} {k : AV → Prop} {v : AV} (h : ACall P f args L (fun av L' => av = v ∧ L' = L)) (h1 : ACall P f args L1 (fun av L' => av = v ∧ L' = L1)) (hk : k v) : CalK2 P f args L L1 k := ⟨v, h, h1, hk⟩
theorem Cal1_K {f : FuncId} {k : AV → Prop} {args : List AV} : Cal1 P f L k (some args) = CalK P f args L k := rfl
theorem Cal2_K {f : FuncId} {k : AV → Prop} {args : List AV} : Cal2 P f L L1 k (some args) = CalK2 P f args L L1 k := rfl

theorem AQv_op {o : LOper} {v : AV} (h : o.op.isCall = false) : AQv P o T L v = (match evalOp T L o.op with | some (c, av, L') => c ∧ av = v ∧ L' = L | none => False) := by
  obtain ⟨d, op, g⟩ := o
  cases op <;> simp only [LOp.isCall, Bool.true_eq_false] at h <;> rfl

/-- One operation that only looks. -/
def StQ1 (P : Program) (L : List Blk) (k : AV → Prop) (T : Tm) (op : LOp) : Prop :=
  match op with
  | .call f xs => Cal1 P f L k (evXs T xs)
  | .callv f xs => ∃ v, AQv P ⟨none, .callv f xs, none⟩ T L v ∧ k v
  | lo => Res1 L k (evalOp T L lo)
def StQ2 (P : Program) (L L1 : List Blk) (k : AV → Prop) (T : Tm) (op : LOp) : Prop :=
  match op with
  | .call f xs => Cal2 P f L L1 k (evXs T xs)
  | .callv f xs => ∃ v, (AQv P ⟨none, .callv f xs, none⟩ T L v ∧ AQv P ⟨none, .callv f xs, none⟩ T L1 v) ∧ k v
  | lo => Res2 L L1 k (evalOp T L lo) (evalOp T L1 lo)
/-- What stands behind an operation of a drawn region. -/
def AGK (P : Program) (K : Tm → List Blk → Prop) (Ls : List (List Blk)) (H : List Kept) (rest : List (LOper × Kd)) (d : Option Nat) (T : Tm) (av : AV) : Prop := AG P K rest Ls H (putT d av T)
def AGR (P : Program) (K : Tm → List Blk → Prop) (Ls : List (List Blk)) (H : List Kept) (rest : List (LOper × Kd)) (f : Nat) (o : LOper) (T : Tm) (av : AV) : Prop := AG P K rest Ls (kept f o T av H) (putT o.dst av T)
def AGE (P : Program) (K : Tm → List Blk → Prop) (Ls : List (List Blk)) (H : List Kept) (rest : List (LOper × Kd)) (d : Option Nat) (T : Tm) (av : AV) (L2 : List Blk) : Prop := Rechk P L2 H ∧ AG P K rest (L2 :: Ls) (dec1 H) (putT d av T)
def ResE (k : AV → List Blk → Prop) : Option (Prop × AV × List Blk) → Prop
  | some (c, av, L2) => c ∧ k av L2
  | none => False
theorem ResE_some {k : AV → List Blk → Prop} {c : Prop} {av : AV} {L2 : List Blk} : ResE k (some (c, av, L2)) = (c ∧ k av L2) := rfl
def IsV (v av : AV) : Prop := av = v

theorem kept_0 {o : LOper} {T : Tm} {v : AV} {H : List Kept} : kept 0 o T v H = H := rfl
theorem kept_s {f : Nat} {o : LOper} {T : Tm} {v : AV} {H : List Kept} : kept (f + 1) o T v H = (f + 1, o, T, v) :: H := rfl
theorem dec1_nil : dec1 [] = [] := rfl
theorem dec1_one {y : LOper × Tm × AV} {H : List Kept} : dec1 ((1, y) :: H) = dec1 H := rfl
theorem dec1_s {y : LOper × Tm × AV} {H : List Kept} : dec1 ((n + 2, y) :: H) = (n + 1, y) :: dec1 H := rfl

theorem AQ_StQ1 {k : AV → Prop} : (∃ v, AQ P ⟨d, op, none⟩ T L v ∧ k v) = StQ1 P L k T op := by
  by_cases h : op.isCall = false
  · have e : StQ1 P L k T op = Res1 L k (evalOp T L op) := by cases op <;> simp only [LOp.isCall, Bool.true_eq_false] at h <;> rfl
    rw [e]
    simp only [AQ, AQv_op (o := ⟨d, op, none⟩) h]
    rcases evalOp T L op with _ | ⟨c, av, L'⟩
    · simp [Res1]
    · simp only [Res1, eq_iff_iff]
      exact ⟨fun ⟨v, ⟨h1, h2, h3⟩, h4⟩ => ⟨h1, h3, h2 ▸ h4⟩, fun ⟨h1, h2, h3⟩ => ⟨av, ⟨h1, rfl, h2⟩, h3⟩⟩
  · cases op <;> simp only [LOp.isCall, not_true_eq_false] at h
    · rename_i f xs
      simp only [AQ, AQv, StQ1]
      rcases evXs T xs with _ | args
      · simp [Cal1]
      · rfl
    · rfl
theorem AQ_StQ2 {k : AV → Prop} : (∃ v, (AQ P ⟨d, op, none⟩ T L v ∧ AQ P ⟨d, op, none⟩ T L1 v) ∧ k v) = StQ2 P L L1 k T op := by
  by_cases h : op.isCall = false
  · have e : StQ2 P L L1 k T op = Res2 L L1 k (evalOp T L op) (evalOp T L1 op) := by cases op <;> simp only [LOp.isCall, Bool.true_eq_false] at h <;> rfl
    rw [e]
    simp only [AQ, AQv_op (o := ⟨d, op, none⟩) h]
    rcases evalOp T L op with _ | ⟨c, av, L'⟩ <;> rcases evalOp T L1 op with _ | ⟨c2, av2, L2⟩
    · simp [Res2]
    · simp [Res2]
    · simp [Res2]
    · simp only [Res2, eq_iff_iff]
      exact ⟨fun ⟨v, ⟨⟨h1, h2, h3⟩, h4, h5, h6⟩, h7⟩ => ⟨h1, h3, h4, h5.trans h2.symm, h6, h2 ▸ h7⟩, fun ⟨h1, h2, h3, h4, h5, h6⟩ => ⟨av, ⟨⟨h1, rfl, h2⟩, h3, h4, h5⟩, h6⟩⟩
  · cases op <;> simp only [LOp.isCall, not_true_eq_false] at h
    · rename_i f xs
      simp only [AQ, AQv, StQ2]
      rcases evXs T xs with _ | args
      · simp [Cal2]
      · simp only [Cal2, and_assoc]
    · rfl

theorem AQ_grd {k : AV → Prop} {g : LOper → AV → Prop} (hg : ∀ v, g ⟨d, op, some (t, b)⟩ v = match look T t with | some (.bool x) => if x = b then g ⟨d, op, none⟩ v else v = .tup [] | some (.tup []) => v = .tup [] | _ => False) :
    (∃ v, g ⟨d, op, some (t, b)⟩ v ∧ k v) = GrdQ b (∃ v, g ⟨d, op, none⟩ v ∧ k v) (k (.tup [])) (look T t) := by
  simp only [hg]
  rcases look T t with _ | x
  · simp [GrdQ]
  · cases x <;> simp only [GrdQ, false_and, exists_false]
    · rename_i x
      by_cases e : x = b
      · simp [e]
      · simp [e]
    · rename_i l
      cases l with
      | nil => simp
      | cons _ _ => simp

theorem AG_nil {K : Tm → List Blk → Prop} {H : List Kept} : AG P K [] (L :: Ls) H T = K T L := rfl
theorem AG_pure {K : Tm → List Blk → Prop} {H : List Kept} {r : List (LOper × Kd)} : AG P K ((⟨d, op, none⟩, .pure) :: r) (L :: Ls) H T = StQ1 P L (AGK P K (L :: Ls) H r d T) T op := AQ_StQ1
theorem AG_pureg {K : Tm → List Blk → Prop} {H : List Kept} {r : List (LOper × Kd)} : AG P K ((⟨d, op, some (t, b)⟩, .pure) :: r) (L :: Ls) H T = GrdQ b (StQ1 P L (AGK P K (L :: Ls) H r d T) T op) (AGK P K (L :: Ls) H r d T (.tup [])) (look T t) := by
  rw [← AQ_StQ1 (d := d)]
  exact AQ_grd (g := fun o v => AQ P o T L v) fun v => rfl
theorem AG_read0 {K : Tm → List Blk → Prop} {H : List Kept} {r : List (LOper × Kd)} {f : Nat} : AG P K ((⟨d, op, none⟩, .read 0 f) :: r) (L :: Ls) H T = StQ1 P L (AGR P K (L :: Ls) H r f ⟨d, op, none⟩ T) T op := by
  rw [← AQ_StQ1 (d := d)]
  simp only [AG, List.take_succ_cons, List.take_zero, List.mem_singleton, forall_eq, AGR]
theorem AG_read0g {K : Tm → List Blk → Prop} {H : List Kept} {r : List (LOper × Kd)} {f : Nat} : AG P K ((⟨d, op, some (t, b)⟩, .read 0 f) :: r) (L :: Ls) H T = GrdQ b (StQ1 P L (AGR P K (L :: Ls) H r f ⟨d, op, some (t, b)⟩ T) T op) (AGR P K (L :: Ls) H r f ⟨d, op, some (t, b)⟩ T (.tup [])) (look T t) := by
  rw [← AQ_StQ1 (d := d)]
  simp only [AG, List.take_succ_cons, List.take_zero, List.mem_singleton, forall_eq]
  exact AQ_grd (g := fun o v => AQ P o T L v) (k := AGR P K (L :: Ls) H r f ⟨d, op, some (t, b)⟩ T) fun v => rfl
theorem AG_read1 {K : Tm → List Blk → Prop} {H : List Kept} {r : List (LOper × Kd)} {f : Nat} : AG P K ((⟨d, op, none⟩, .read 1 f) :: r) (L :: L1 :: Ls) H T = StQ2 P L L1 (AGR P K (L :: L1 :: Ls) H r f ⟨d, op, none⟩ T) T op := by
  rw [← AQ_StQ2 (d := d)]
  simp only [AG, List.take_succ_cons, List.take_zero, List.mem_cons, List.not_mem_nil, or_false, forall_eq_or_imp, forall_eq, AGR]
/-- One operation or call that changes the blocks. -/
def ResX (P : Program) (L : List Blk) (k : AV → List Blk → Prop) (T : Tm) (op : LOp) : Prop :=
  match op with
  | .call f xs => ∃ v L2, EQv P ⟨none, .call f xs, none⟩ T L v L2 ∧ k v L2
  | .callv f xs => ∃ v L2, EQv P ⟨none, .callv f xs, none⟩ T L v L2 ∧ k v L2
  | lo => ResE k (evalOp T L lo)
theorem AG_eff {K : Tm → List Blk → Prop} {H : List Kept} {r : List (LOper × Kd)} : AG P K ((⟨d, op, none⟩, .eff) :: r) (L :: Ls) H T = ResX P L (AGE P K (L :: Ls) H r d T) T op := by
  simp only [AG, EQ]
  have key : ∀ lo : LOp, lo.isCall = false → (∃ v L2, EQv P ⟨d, lo, none⟩ T L v L2 ∧ AGE P K (L :: Ls) H r d T v L2) = ResE (AGE P K (L :: Ls) H r d T) (evalOp T L lo) := fun lo hlo => by
    have e : ∀ v L2, EQv P ⟨d, lo, none⟩ T L v L2 = (match evalOp T L lo with | some (c, av, L') => c ∧ av = v ∧ L' = L2 | none => False) := fun v L2 => by
      cases lo <;> simp only [LOp.isCall, Bool.true_eq_false] at hlo <;> rfl
    simp only [e]
    rcases evalOp T L lo with _ | ⟨c, av, L'⟩
    · simp [ResE]
    · simp only [ResE, eq_iff_iff]
      exact ⟨fun ⟨v, L2, ⟨h1, h2, h3⟩, h4⟩ => ⟨h1, h2 ▸ h3 ▸ h4⟩, fun ⟨h1, h2⟩ => ⟨av, L', ⟨h1, rfl, rfl⟩, h2⟩⟩
  have key2 : (∃ v L2, EQv P ⟨d, op, none⟩ T L v L2 ∧ Rechk P L2 H ∧ AG P K r (L2 :: L :: Ls) (dec1 H) (putT d v T)) = (∃ v L2, EQv P ⟨d, op, none⟩ T L v L2 ∧ AGE P K (L :: Ls) H r d T v L2) := rfl
  rw [key2]
  cases op
  case call => rfl
  case callv => rfl
  all_goals exact key _ rfl
theorem Rechk_nil : Rechk P L [] = True := rfl
theorem Rechk_cons {f : Nat} {v : AV} {H : List Kept} : Rechk P L ((f, ⟨d, op, none⟩, T, v) :: H) = (StQ1 P L (IsV v) T op ∧ Rechk P L H) := by
  rw [← AQ_StQ1 (d := d)]
  simp [Rechk, IsV]
theorem Rechk_consg {f : Nat} {v : AV} {H : List Kept} : Rechk P L ((f, ⟨d, op, some (t, b)⟩, T, v) :: H) = (GrdQ b (StQ1 P L (IsV v) T op) (IsV v (.tup [])) (look T t) ∧ Rechk P L H) := by
  rw [← AQ_StQ1 (d := d), ← AQ_grd (g := fun o v => AQ P o T L v) (k := IsV v) (d := d) (op := op) (t := t) (b := b) (T := T) fun v => rfl]
  simp [Rechk, IsV]
theorem AW_dreg {N : Nat} {own : Nat → Nat → Nat} {Q : Exit → Tm → List Blk → Prop} {qk : List (LOper × Kd)} {ts : List LOper} (h : AG P (AOps P (Q .normal) ts) qk [L] [] T) : AW P N own (.dregion qk ts) Q T L := AW_dregion h
end

/-- Numbers, as cells. -/
abbrev ints (xs : List Int) : List AV := xs.map (AV.int .i64)
theorem frzL_ints (xs : List Int) : AV.frzL (xs.map (AV.int .i64)) = xs.map (AV.int .i64) := by rw [AV.frzL_eq, List.map_map]; rfl
theorem one_ints (xs : List Int) : (xs.map (AV.int .i64)).all AV.one = true := by rw [List.all_map]; simp [AV.one]

theorem wrap_0 : IntKind.i64.wrap 0 = 0 := by decide
theorem wrap_1 : IntKind.i64.wrap 1 = 1 := by decide
theorem wrap_2 : IntKind.i64.wrap 2 = 2 := by decide
theorem wrap_m1 : IntKind.i64.wrap (-1) = -1 := by decide

/-- What comes next. -/
structure Nx (p : Prop) : Prop where
  out : p
structure NxI (c p : Prop) : Prop where
  out : c → p
theorem NxI_in {c p : Prop} (h : c → p) : NxI c p := ⟨h⟩
theorem Nx_in {p : Prop} (h : p) : Nx p := ⟨h⟩
section
variable {P : Program} {L : List Blk} {body : List SOp} {d : Nat} {x : Opd} {k : Tm → Prop} {T : Tm} {c : Prop} [Decidable c] {p q : Bool}
theorem GQ_mkT (h : NxI (c) (GL P L body (IsX x q) T)) (hk : Nx (k ((d, .bool (decide c && q)) :: T))) : GQ P L true body d x k T (decide c) := ⟨q, fun e => h.out (of_decide_eq_true e), hk.out⟩
theorem GQ_mkTN (h : NxI (¬ c) (GL P L body (IsX x q) T)) (hk : Nx (k ((d, .bool (!decide c && q)) :: T))) : GQ P L true body d x k T (!decide c) := ⟨q, fun e => h.out (by simpa using e), hk.out⟩
theorem GQ_mkF (h : NxI (¬ c) (GL P L body (IsX x q) T)) (hk : Nx (k ((d, .bool (decide c || q)) :: T))) : GQ P L false body d x k T (decide c) := ⟨q, fun e => h.out (of_decide_eq_false e), hk.out⟩
theorem GQ_mkFN (h : NxI (c) (GL P L body (IsX x q) T)) (hk : Nx (k ((d, .bool (!decide c || q)) :: T))) : GQ P L false body d x k T (!decide c) := ⟨q, fun e => h.out (by simpa using e), hk.out⟩
theorem GQ_mkB (h : NxI (p = true) (GL P L body (IsX x q) T)) (hk : Nx (k ((d, .bool (p && q)) :: T))) : GQ P L true body d x k T p := ⟨q, h.out, hk.out⟩
theorem GQ_mkBF (h : NxI (p = false) (GL P L body (IsX x q) T)) (hk : Nx (k ((d, .bool (p || q)) :: T))) : GQ P L false body d x k T p := ⟨q, h.out, hk.out⟩
variable {a b : Prop} [Decidable a] [Decidable b]
theorem and_dd : (decide a && decide b) = decide (a ∧ b) := (Bool.decide_and a b).symm
theorem and_nd : (!decide a && decide b) = decide (¬ a ∧ b) := by simp [Bool.decide_and]
theorem and_dn : (decide a && !decide b) = decide (a ∧ ¬ b) := by simp [Bool.decide_and]
theorem and_nn : (!decide a && !decide b) = decide (¬ a ∧ ¬ b) := by simp [Bool.decide_and]
theorem or_dd : (decide a || decide b) = decide (a ∨ b) := (Bool.decide_or a b).symm
theorem or_nd : (!decide a || decide b) = decide (¬ a ∨ b) := by simp [Bool.decide_or]
theorem or_dn : (decide a || !decide b) = decide (a ∨ ¬ b) := by simp [Bool.decide_or]
theorem or_nn : (!decide a || !decide b) = decide (¬ a ∨ ¬ b) := by simp [Bool.decide_or]
end
attribute [push_cast] SelD_eq evD deg Option.map_some GL_nil GL_op GL_grp GG_some GQ_ft GQ_tf SK_eq SL_nil SL_op SL_opg SL_grp sel_nil sel_t sel_f GKon GCal GCalv GRes GOp IsX and_dd and_nd and_dn and_nn or_dd or_nd or_dn or_nn Bool.true_and Bool.and_true Bool.false_and Bool.and_false Bool.true_or Bool.or_true Bool.false_or Bool.or_false Bool.not_true Bool.not_false
attribute [push_cast] wrap_0 wrap_1 wrap_2 wrap_m1 AGK AGR AGE IsV ResE_some kept_0 kept_s dec1_nil dec1_one dec1_s AG_nil AG_pure AG_pureg AG_read0 AG_read0g AG_read1 AG_eff ResX Rechk_nil Rechk_cons Rechk_consg Res1_some Res2_some Cal1_K Cal2_K GrdQ_bool GrdQ_tup StQ1 StQ2 eq_self BackR_some retA AOps_nil AOps_cons AOps_guard Grd_bool Grd_tup Res_some Cal_some Calv_some AOp evalOp evX evXs look putT bin binI binS un eqA row fillA AV.cells? bnd Qthen Qblock initT resA retA elems app appOwn replC AV.frz AV.frzL frzL_ints one_ints
  Option.bind_some Option.bind_none Option.map_some Option.map_none Option.getD_some Option.getD_none if_true if_false true_and and_true
  List.length_cons List.length_nil List.length_append List.length_map List.getElem?_cons_zero List.getElem?_cons_succ getApp0 getAppK setApp0 setAppK appSnoc List.cons_append List.nil_append List.append_nil
  Nat.add_zero Nat.zero_add Nat.mul_one Nat.one_mul Nat.zero_mul Nat.mul_zero List.getD_cons_zero List.getD_cons_succ Bool.not_true Bool.not_false decide_true decide_false forall_const not_true_eq_false not_false_eq_true ne_eq Bool.false_eq_true Bool.true_eq_false
  List.drop_zero List.drop_succ_cons List.take_succ_cons List.take_zero splice List.set_cons_zero List.set_cons_succ List.all_cons List.all_nil AV.one Bool.and_self Bool.and_true Bool.true_and false_implies implies_true decide_eq_true_eq decide_eq_false_iff_not
  Nat.sub_zero Int.toNat_zero Int.toNat_natCast Bool.not_eq_true' Bool.not_not Bool.not_eq_false

end Go.Proofs.YtpednpndahgleaaGreatDoor.Av
