/- A function's body, and what it hands back. No program in sight. -/
import Derived.Test.YtpednpndahgleaaGreatDoorAvO
set_option linter.unusedSimpArgs false
set_option linter.unusedVariables false
namespace Go.Proofs.YtpednpndahgleaaGreatDoor.Av
open Go

inductive LRes where
  | tmp (t : Nat)
  | cell (agg : Bool) (sz t : Nat)
  deriving Inhabited

structure LFun where
  ntmps : Nat
  code : LCode
  res : List LRes
  deriving Inhabited

/-- Without what is told of groups. -/
def LFun.raw (f : LFun) : LFun := ⟨f.ntmps, f.code.raw, f.res⟩

def lowRes (P : Program) : List ResultVar → Option (List LRes)
  | [] => some []
  | .tmp t :: l => (lowRes P l).map (.tmp t :: ·)
  | .cell a t :: l => match isAggT P t, szOf P t, lowRes P l with
    | some g, some s, some m => some (.cell g s a :: m)
    | _, _, _ => none

def lowF (P : Program) (own : Nat → Nat → Nat) (f : FuncId) : Option LFun :=
  match P.funcs[f]? with
  | none => none
  | some fn => if (fn.name == "runtime.NumGoroutine") = true then none else match fn.body with
    | none => none
    | some c => match lowCode P fn.ntmps own c, lowRes P fn.results.toList with
      | some lc, some rs => some ⟨fn.ntmps, lc, rs⟩
      | _, _ => none

def resA (T : Tm) (L : List Blk) : List LRes → Option (Prop × List AV)
  | [] => some (True, [])
  | .tmp t :: l => match look T t, resA T L l with
    | some v, some (c, m) => some (c, v :: m)
    | _, _ => none
  | .cell g sz t :: l => match (look T t).bind (row L), resA T L l with
    | some (r, off), some (c, m) => if g then some (off + sz ≤ r.length ∧ c, .agg ((r.drop off).take sz) :: m) else some (off < r.length ∧ c, r.getD off .undef :: m)
    | _, _ => none

def retA : List AV → AV
  | [v] => v
  | l => .tup l

def initT (i : Nat) : List AV → Tm
  | [] => []
  | a :: l => (i, a) :: initT (i + 1) l

section
variable {P : Program} {w0 : World} {S0 : Nat → Prop} {N : Nat} {E : Env} {L : List Blk} {w : World} {T : Tm} {a : Act}

theorem resA_run : ∀ {rs : List ResultVar} {ls : List LRes} {c : Prop} {m : List AV}, lowRes P rs = some ls → resA T L ls = some (c, m) → c → Rel w0 S0 E L w → TR E T a →
    ∃ vs, VRL E m vs ∧ (rs.mapM (m := Sem) fun
      | .tmp t => pure (a.tmps.getD t undef)
      | .cell x t => do loadVar t (← asAddr (a.tmps.getD x undef))).run P w = .ok vs w
  | [], ls, c, m, hl, he, hc, hR, hT => by
    simp [lowRes] at hl; subst hl
    simp [resA] at he; obtain ⟨_, rfl⟩ := he
    exact ⟨[], by simp [VRL], by simp⟩
  | .tmp t :: rs, ls, c, m, hl, he, hc, hR, hT => by
    simp only [lowRes, Option.map_eq_some_iff] at hl
    obtain ⟨ls', h1, rfl⟩ := hl
    simp only [resA] at he
    split at he <;> try cases he
    rename_i v c' m' h2 h3
    obtain ⟨vs, h4, h5⟩ := resA_run h1 h3 hc hR hT
    exact ⟨_ :: vs, ⟨_, _, rfl, hT _ _ h2, h4⟩, by simp only [List.mapM_cons, Sem.run_bind, Sem.run_pure, Result.andThen_ok, h5]⟩
  | .cell x t :: rs, ls, c, m, hl, he, hc, hR, hT => by
    simp only [lowRes] at hl
    split at hl <;> try cases hl
    rename_i g s ls' hg hs h1
    simp only [resA] at he
    split at he <;> try cases he
    rename_i r off c' m' h2 h3
    rcases h6 : look T x with _ | u
    · simp [h6] at h2
    · simp only [h6, Option.bind_some] at h2
      have hv := hT _ _ h6
      obtain ⟨b, o, hp, hcells⟩ := row_sound hR h2 hv
      have hAddr : (asAddr (a.tmps.getD x undef)).run P w = .ok ⟨b, o + off, none⟩ w := by rw [hp]; rfl
      cases g
      · simp only [Bool.false_eq_true, if_false, Option.some.injEq, Prod.mk.injEq] at he
        obtain ⟨rfl, rfl⟩ := he
        obtain ⟨vs, h4, h5⟩ := resA_run h1 h3 hc.2 hR hT
        obtain ⟨y, h7, h8⟩ := hcells off r[off] (List.getElem?_eq_getElem hc.1)
        refine ⟨y :: vs, ⟨_, _, rfl, by rw [List.getD_eq_getElem?_getD, List.getElem?_eq_getElem hc.1]; exact h8, h4⟩, ?_⟩
        have hload : (loadVar t ⟨b, o + off, none⟩).run P w = .ok y w := by simp [loadVar, isAgg_run hg, h7]
        simp only [List.mapM_cons, Sem.run_bind, hAddr, Result.andThen_ok, hload, h5, Sem.run_pure]
      · simp only [if_true, Option.some.injEq, Prod.mk.injEq] at he
        obtain ⟨rfl, rfl⟩ := he
        obtain ⟨vs, h4, h5⟩ := resA_run h1 h3 hc.2 hR hT
        have hlen : ((r.drop off).take s).length = s := by simp; omega
        obtain ⟨cs, h7, h8⟩ := loadVar_agg (P := P) (w := w) (b := b) (o := o + off) (l := (r.drop off).take s) hg (by rw [hlen]; exact hs) (fun j a ha => by
          have hj : j < s := by have := (List.getElem?_eq_some_iff.1 ha).1; omega
          rw [List.getElem?_take_of_lt hj, List.getElem?_drop] at ha
          have := hcells _ _ ha
          rwa [← Nat.add_assoc] at this)
        refine ⟨.agg ⟨cs⟩ :: vs, ⟨_, _, rfl, ⟨cs, rfl, h7⟩, h4⟩, ?_⟩
        simp only [List.mapM_cons, Sem.run_bind, hAddr, Result.andThen_ok, h8, h5, Sem.run_pure]

theorem retA_rel {m : List AV} {vs : List Value} (h : VRL E m vs) : VR E (retA m) (if h : vs.length = 1 then vs[0] else .tuple ⟨vs⟩) := by
  have hl := h.length
  by_cases h1 : vs.length = 1
  · rw [dif_pos h1]
    match m, vs, h, hl, h1 with
    | [x], [y], h, _, _ =>
      simp only [VRL, List.cons.injEq] at h
      obtain ⟨_, _, ⟨rfl, rfl⟩, h2, _⟩ := h
      exact h2
  · rw [dif_neg h1]
    have : retA m = .tup m := by
      match m, hl with
      | [], _ => rfl
      | [x], hl => simp at hl; exact absurd hl h1
      | _ :: _ :: _, _ => rfl
    rw [this]
    exact ⟨vs, rfl, h⟩

theorem look_initT : ∀ {args : List AV} {i t : Nat} {v : AV}, look (initT i args) t = some v → i ≤ t ∧ args[t - i]? = some v
  | [], i, t, v, h => by simp [initT, look] at h
  | x :: args, i, t, v, h => by
    simp only [initT, look] at h
    split at h
    · rename_i e; subst e; simp at h; subst h; simp
    · rename_i e
      have := look_initT h
      refine ⟨by omega, ?_⟩
      rw [show t - i = (t - (i + 1)) + 1 by omega]
      simpa using this.2

/-- A call that is over: what its value and its blocks are turned into, for the caller (who had the blocks L0). -/
def Fin (L0 : List Blk) (r : AV) (L : List Blk) (Q : AV → List Blk → Prop) : Prop :=
  ∀ (w0 : World) (S0 : Nat → Prop) (E0 E : Env) (w : World) (v : Value), E0.le E → (∀ i, L0.length ≤ i → E0.loc i = none ∧ E0.tok i = none) → (∀ k ∈ L0, k.refs (fun i => decide (i < L0.length)) = true) →
    Rel w0 S0 E L w → VR E r v → ∃ E' av L', E0.le E' ∧ Q av L' ∧ VR E' av v ∧ Rel w0 S0 E' L' w

mutual
theorem VR.refs {n : Nat} (hn : ∀ i, n ≤ i → E.loc i = none) (ht : ∀ i, n ≤ i → E.tok i = none) : ∀ (a : AV) (v : Value), VR E a v → a.refs (fun i => decide (i < n)) = true
  | .undef, _, _ => rfl
  | .bool _, _, _ => rfl
  | .anyb, _, _ => rfl
  | .int _ _, _, _ => rfl
  | .str _, _, _ => rfl
  | .nilptr, _, _ => rfl
  | .gptr _ _, _, _ => rfl
  | .ptr i off, v, r => by
    simp only [VR] at r; obtain ⟨c, h, _⟩ := r
    simp only [AV.refs, decide_eq_true_eq]
    rcases Nat.lt_or_ge i n with h1 | h1
    · exact h1
    · rw [hn i h1] at h; cases h
  | .iptr l off, v, r => by
    simp only [VR] at r; obtain ⟨b, o, _, h⟩ := r
    exact VRC.refs hn ht l b o h
  | .nilsl, _, _ => rfl
  | .sl l m cap, v, r => by
    simp only [VR] at r; obtain ⟨p, c, _, _, _, h⟩ := r
    rcases h with ⟨_, _, _, rfl⟩ | ⟨b, o, _, h⟩
    · rfl
    · exact VRC.refs hn ht l b o h
  | .gsl l m i sz, v, r => by
    simp only [VR] at r; obtain ⟨p, c, _, _, _, h, t, h2, _⟩ := r
    simp only [AV.refs, decide_eq_true_eq, Bool.and_eq_true]
    refine ⟨?_, ?_⟩
    · rcases Nat.lt_or_ge i n with h1 | h1
      · exact h1
      · rw [ht i h1] at h2; cases h2
    · rcases h with ⟨_, _, _, rfl⟩ | ⟨b, o, _, h⟩
      · rfl
      · exact VRC.refs hn ht l b o h
  | .lsl i off len cap sz, v, r => by
    simp only [VR] at r; obtain ⟨c, rc, d, h, _⟩ := r
    simp only [AV.refs, decide_eq_true_eq]
    rcases Nat.lt_or_ge i n with h1 | h1
    · exact h1
    · rw [hn i h1] at h; cases h
  | .nilmap, _, _ => rfl
  | .lmap i, v, r => by
    simp only [VR] at r; obtain ⟨c, h, _⟩ := r
    simp only [AV.refs, decide_eq_true_eq]
    rcases Nat.lt_or_ge i n with h1 | h1
    · exact h1
    · rw [hn i h1] at h; cases h
  | .func f caps, v, r => by
    simp only [VR] at r; obtain ⟨vs, _, h⟩ := r
    exact VRL.refs hn ht caps vs h
  | .nilfunc, _, _ => rfl
  | .nilif, _, _ => rfl
  | .iface t x, v, r => by
    simp only [VR] at r; obtain ⟨y, _, h⟩ := r
    exact VR.refs hn ht x y h
  | .agg l, v, r => by
    simp only [VR] at r; obtain ⟨vs, _, h⟩ := r
    exact VRL.refs hn ht l vs h
  | .tup l, v, r => by
    simp only [VR] at r; obtain ⟨vs, _, h⟩ := r
    exact VRL.refs hn ht l vs h
theorem VRL.refs {n : Nat} (hn : ∀ i, n ≤ i → E.loc i = none) (ht : ∀ i, n ≤ i → E.tok i = none) : ∀ (l : List AV) (vs : List Value), VRL E l vs → AV.refsL (fun i => decide (i < n)) l = true
  | [], _, _ => rfl
  | a :: l, vs, r => by
    simp only [VRL] at r; obtain ⟨x, xs, _, h1, h2⟩ := r
    simp only [AV.refsL, Bool.and_eq_true]
    exact ⟨VR.refs hn ht a x h1, VRL.refs hn ht l xs h2⟩
theorem VRC.refs {n : Nat} (hn : ∀ i, n ≤ i → E.loc i = none) (ht : ∀ i, n ≤ i → E.tok i = none) : ∀ (l : List AV) (b o : Nat), VRC E l b o → AV.refsL (fun i => decide (i < n)) l = true
  | [], _, _, _ => rfl
  | a :: l, b, o, r => by
    simp only [VRC] at r; obtain ⟨⟨x, _, h1⟩, h2⟩ := r
    simp only [AV.refsL, Bool.and_eq_true]
    exact ⟨VR.refs hn ht a x h1, VRC.refs hn ht l b (o + 1) h2⟩
end

theorem MapRel.refs {n : Nat} (hn : ∀ i, n ≤ i → E.loc i = none) (ht : ∀ i, n ≤ i → E.tok i = none) : ∀ {l : List (AV × AV × Nat)} {es : List MapEntry}, MapRel E l es → (l.all fun e => e.1.refs (fun i => decide (i < n)) && e.2.1.refs (fun i => decide (i < n))) = true
  | [], _, _ => rfl
  | (k, x, b) :: l, es, r => by
    simp only [MapRel] at r; obtain ⟨e, t, _, h1, h2, _, h3⟩ := r
    simp only [List.all_cons, Bool.and_eq_true]
    exact ⟨⟨VR.refs hn ht _ _ h1, VR.refs hn ht _ _ h2⟩, MapRel.refs hn ht h3⟩

theorem Rel.refs (h : Rel w0 S0 E L w) : ∀ k ∈ L, k.refs (fun i => decide (i < L.length)) = true := fun k hk => by
  obtain ⟨i, hi⟩ := List.mem_iff_getElem?.1 hk
  have hb := h.blk i k hi
  cases k <;> simp only [BRel] at hb
  · rfl
  · obtain ⟨c, cs, ty, fr, _, _, _, _, h5, _⟩ := hb
    refine AV.refsL_iff.2 fun a ha => ?_
    obtain ⟨j, hj⟩ := List.mem_iff_getElem?.1 ha
    obtain ⟨v, _, hv⟩ := h5 j a hj
    exact VR.refs h.fresh h.tkfresh _ _ hv
  · obtain ⟨c, rs, _, _, h3⟩ := hb
    exact MapRel.refs h.fresh h.tkfresh h3
  · rename_i m _ _ _
    obtain ⟨c, q, _, _, _, h4⟩ := hb
    cases m with
    | none => rfl
    | some j =>
      obtain ⟨d, g1, _⟩ := h4
      simp only [Blk.refs, decide_eq_true_eq]
      rcases Nat.lt_or_ge j L.length with h5 | h5
      · exact h5
      · rw [h.fresh j h5] at g1; cases g1
  · rfl
  · rfl

/-- The end of a body. -/
def Back (res : List LRes) (L0 : List Blk) (Q : AV → List Blk → Prop) (e : Exit) (T : Tm) (L' : List Blk) : Prop :=
  (e = .normal ∨ e = .ret) ∧ ∃ c rs, resA T L' res = some (c, rs) ∧ c ∧ Fin L0 (retA rs) L' Q

theorem ACall_fn {own : Nat → Nat → Nat} {f : FuncId} {lf : LFun} (h : lowF P own f = some lf.raw) {args : List AV} {L : List Blk} {Q : AV → List Blk → Prop} (hlen : args.length ≤ lf.ntmps)
    (hb : AW P lf.ntmps own lf.code (Back lf.res L Q) (initT 0 args) L) : ACall P f args L Q := by
  intro w0 S0 E w vs hR hv
  obtain ⟨nt, code, rs0⟩ := lf
  simp only [LFun.raw] at h hlen hb
  unfold lowF at h
  split at h
  · cases h
  rename_i fn hfn
  split at h
  · cases h
  rename_i hname
  split at h
  · cases h
  rename_i c hc
  split at h <;> try cases h
  rename_i lc rs hlc hrs
  refine .inl ⟨?_, ?_⟩
  · have : (fn.name == "runtime.NumGoroutine") = false := by simpa using hname
    simp only [callFunc, Sem.run_bind, run_program, Result.andThen_ok, hfn, this, hc, Option.isNone_some, Bool.false_eq_true, if_false, Sem.run_pure]
  · refine calls_of_wp hfn hc ?_
    have hvl := hv.length
    have hst : St w0 S0 fn.ntmps E (initT 0 args) L { tmps := (⟨vs⟩ : Array Value) ++ Array.replicate (fn.ntmps - vs.length) undef, defers := [] } w := by
      refine ⟨hR, fun t x hx => ?_, by simp; omega, rfl⟩
      obtain ⟨_, h1⟩ := look_initT hx
      simp only [Nat.sub_zero] at h1
      obtain ⟨y, h2, h3⟩ := hv.get h1
      have hlt : t < vs.length := (List.getElem?_eq_some_iff.1 h2).1
      rw [Array.getD_eq_getD_getElem?, Array.getElem?_append_left (by simpa using hlt)]
      simpa [h2] using h3
    refine wp_mono (hb c hlc w0 S0 E _ w hst) fun e a' w' ⟨E', T', L', g1, ⟨g2, c', rs', g3, g4, g5⟩, g6⟩ => ?_
    obtain ⟨us, k1, k2⟩ := resA_run hrs g3 g4 g6.1 g6.2.1
    obtain ⟨E'', av, L'', k3, k4, k5, k6⟩ := g5 w0 S0 E E' w' _ g1 (fun i hi => ⟨hR.fresh i hi, hR.tkfresh i hi⟩) hR.refs g6.1 (retA_rel k1)
    have hres : (results fn a'.tmps).run P w' = .ok (if h : us.length = 1 then us[0] else .tuple ⟨us⟩) w' := by
      unfold results
      rw [Array.mapM_eq_mapM_toList]
      simp only [Sem.run_bind, Sem.run_map]
      refine (congrArg (fun r => (Result.andThen r fun x w => Result.ok x.toArray w).andThen _) k2).trans ?_
      simp
    have post : a'.defers = [] ∧ ∃ v, (results fn a'.tmps).run P w' = .ok v w' ∧ ∃ E' v' av L', Ending.returned v = .returned v' ∧ E.le E' ∧ Q av L' ∧ VR E' av v' ∧ Rel w0 S0 E' L' w' :=
      ⟨g6.2.2.2, _, hres, E'', _, av, L'', rfl, k3, k4, k5, k6⟩
    rcases g2 with rfl | rfl <;> exact post

/-! what a call's end may be turned into -/
theorem Fin_same {L0 L : List Blk} {r : AV} {Q : AV → List Blk → Prop} (h : Q r L) : Fin L0 r L Q := fun w0 S0 E0 E w v h0 _ _ hR hv => ⟨E, r, L, h0, h, hv, hR⟩

theorem res_le {E0 E : Env} {n m : Nat} (h0 : E0.le E) (hn : ∀ i, n ≤ i → E0.loc i = none ∧ E0.tok i = none) (hm : n ≤ m) (g : Nat → Nat) (hg : ∀ i, i < n → g i = i) : E0.le (E.res m g) := by
  have lt : ∀ i, (E0.loc i ≠ none ∨ E0.tok i ≠ none) → i < n := fun i hi => by
    rcases Nat.lt_or_ge i n with h1 | h1
    · exact h1
    · have := hn i h1; simp [this.1, this.2] at hi
  refine ⟨fun b o x hx => h0.mem b o x hx, fun i c hc => ?_, fun i t ht => ?_⟩
  · have hi := lt i (.inl (by simp [hc]))
    rw [Env.res_loc (by omega), hg i hi]; exact h0.loc i c hc
  · have hi := lt i (.inr (by simp [ht]))
    rw [Env.res_tok (by omega), hg i hi]; exact h0.tok i t ht

theorem Fin_keep {L0 L1 L2 : List Blk} {r : AV} {Q : AV → List Blk → Prop} (hl : L1.length = L0.length) (hk : (∀ k ∈ L0, k.refs (fun i => decide (i < L0.length)) = true) → ∀ k ∈ L1, k.refs (fun i => decide (i < L0.length)) = true) (hr : r.refs (fun i => decide (i < L0.length)) = true)
    (h : Q r L1) : Fin L0 r (L1 ++ L2) Q := fun w0 S0 E0 E w v h0 hn hw hR hv => by
  have hcut := hR.cut (by rw [hl]; exact hk hw)
  refine ⟨E.res L1.length id, r, L1, res_le h0 hn (by omega) id (fun _ _ => rfl), h, VR.cut (E := E) (E' := E.res L1.length id) (p := fun i => decide (i < L0.length)) (fun _ _ _ x => x) (fun i c hi hc => ?_) (fun i t hi ht => ?_) r v hr hv, hcut⟩
  · rw [Env.res_loc (by have : i < L0.length := by simpa using hi
                        omega)]; exact hc
  · rw [Env.res_tok (by have : i < L0.length := by simpa using hi
                        omega)]; exact ht

/-- What is handed back reads so to others. -/
theorem Fin_frz {L0 L : List Blk} {r : AV} {Q : AV → List Blk → Prop} (h : Fin L0 r.frz L Q) : Fin L0 r L Q := fun w0 S0 E0 E w v h0 hn hw hR hv =>
  h w0 S0 E0 E w v h0 hn hw hR (VR.frz _ _ hv)

theorem Back_ret {res : List LRes} {L0 L' : List Blk} {T : Tm} {Q : AV → List Blk → Prop} {c : Prop} {rs : List AV} (h : resA T L' res = some (c, rs)) (hc : c) (hf : Fin L0 (retA rs) L' Q) : Back res L0 Q .ret T L' := ⟨.inr rfl, c, rs, h, hc, hf⟩
theorem Back_end {res : List LRes} {L0 L' : List Blk} {T : Tm} {Q : AV → List Blk → Prop} {c : Prop} {rs : List AV} (h : resA T L' res = some (c, rs)) (hc : c) (hf : Fin L0 (retA rs) L' Q) : Back res L0 Q .normal T L' := ⟨.inl rfl, c, rs, h, hc, hf⟩

theorem Fin_pure {L0 L2 : List Blk} {r : AV} {Q : AV → List Blk → Prop} (hr : r.refs (fun i => decide (i < L0.length)) = true) (h : Q r L0) : Fin L0 r (L0 ++ L2) Q :=
  Fin_keep rfl (fun h => h) hr h

mutual
def AV.snap (i : Nat) (l : List AV) : AV → AV
  | .lsl j off n cap s => if j = i then .sl ((l.drop off).take (n * s)) n cap else .lsl j off n cap s
  | .agg xs => .agg (AV.snapL i l xs)
  | .tup xs => .tup (AV.snapL i l xs)
  | a => a
def AV.snapL (i : Nat) (l : List AV) : List AV → List AV
  | [] => []
  | a :: xs => AV.snap i l a :: AV.snapL i l xs
end

mutual
theorem VR.snap {i : Nat} {l : List AV} {c : Loc} (hc : E.loc i = some c) (hl : VRC E l c.blk c.off) : ∀ (a : AV) (v : Value), VR E a v → VR E (a.snap i l) v
  | .lsl j off n cap s, v, r => by
    simp only [AV.snap]
    split
    · rename_i e; subst e
      simp only [VR] at r ⊢
      obtain ⟨c', rc, d, h1, rfl, h2, h3, h4, h5⟩ := r
      rw [hc] at h1; cases h1
      refine ⟨_, rc, rfl, h3, h4, .inr ⟨c.blk, d, rfl, ?_⟩⟩
      rcases Nat.eq_zero_or_pos n with hn | hn
      · subst hn; simp [VRC]
      · rw [h2 (by omega)]
        exact (hl.drop off).take _
    · exact r
  | .agg xs, v, r => by
    simp only [AV.snap, VR] at r ⊢
    obtain ⟨vs, h1, h2⟩ := r
    exact ⟨vs, h1, VRL.snap hc hl xs vs h2⟩
  | .tup xs, v, r => by
    simp only [AV.snap, VR] at r ⊢
    obtain ⟨vs, h1, h2⟩ := r
    exact ⟨vs, h1, VRL.snap hc hl xs vs h2⟩
  | .undef, _, r => r
  | .bool _, _, r => r
  | .anyb, _, r => r
  | .int _ _, _, r => r
  | .str _, _, r => r
  | .nilptr, _, r => r
  | .gptr _ _, _, r => r
  | .ptr _ _, _, r => r
  | .iptr _ _, _, r => r
  | .nilsl, _, r => r
  | .sl _ _ _, _, r => r
  | .gsl _ _ _ _, _, r => r
  | .nilmap, _, r => r
  | .lmap _, _, r => r
  | .func _ _, _, r => r
  | .nilfunc, _, r => r
  | .nilif, _, r => r
  | .iface _ _, _, r => r
theorem VRL.snap {i : Nat} {l : List AV} {c : Loc} (hc : E.loc i = some c) (hl : VRC E l c.blk c.off) : ∀ (xs : List AV) (vs : List Value), VRL E xs vs → VRL E (AV.snapL i l xs) vs
  | [], _, r => r
  | a :: xs, vs, r => by
    simp only [AV.snapL, VRL] at r ⊢
    obtain ⟨x, ys, h1, h2, h3⟩ := r
    exact ⟨x, ys, h1, VR.snap hc hl a x h2, VRL.snap hc hl xs ys h3⟩
end

/-- A row of the call's own stays as it is from now on. -/
theorem Fin_snap {L0 L : List Blk} {r : AV} {Q : AV → List Blk → Prop} {i : Nat} {l : List AV} (hi : L[i]? = some (.cells l)) (h : Fin L0 (r.snap i l) (L.set i .dead) Q) : Fin L0 r L Q := fun w0 S0 E0 E w v h0 hn hw hR hv => by
  obtain ⟨c, cs, ty, fr, h1, _⟩ := hR.blk i _ hi
  obtain ⟨E', g1, g2, g3, g4⟩ := hR.snap hi h1
  exact h w0 S0 E0 E' w v (h0.trans g1) hn hw g2 (VR.snap (by rw [g4]; exact h1) g3 _ _ (VR.mono g1 _ _ hv))

/-- The call hands back a new block: the first one behind the caller's. -/
theorem Fin_own {L0 L2 : List Blk} {r : AV} {Q : AV → List Blk → Prop} (k : Nat) (b : Blk) (hlv : b.live = true) (hk : L0.length ≤ k) (hL : (L0 ++ L2)[k]? = some b) (hr : r.refs (fun i => decide (i < L0.length) || decide (i = k)) = true)
    (hb : b.refs (fun i => decide (i < L0.length)) = true)
    (h : Q (r.ren fun i => if i = k then L0.length else i) (L0 ++ [b])) : Fin L0 r (L0 ++ L2) Q := fun w0 S0 E0 E w v h0 hn hw hR hv => by
  have lenL : (L0 ++ [b]).length = L0.length + 1 := by simp
  have hg : ∀ i, i < L0.length → (fun i => if i < L0.length then i else k) i = i := fun i hi => if_pos hi
  have hloc : ∀ i c, (decide (i < L0.length) || decide (i = k)) = true → E.loc i = some c → (E.res (L0 ++ [b]).length (fun i => if i < L0.length then i else k)).loc (if i = k then L0.length else i) = some c := by
    intro i c hi hc
    by_cases e : i = k
    · subst e
      rw [if_pos rfl, Env.res_loc (by omega), if_neg (by omega)]; exact hc
    · simp only [e, decide_false, Bool.or_false, decide_eq_true_eq] at hi
      rw [if_neg e, Env.res_loc (by omega), if_pos hi]; exact hc
  have htok : ∀ i c, (decide (i < L0.length) || decide (i = k)) = true → E.tok i = some c → (E.res (L0 ++ [b]).length (fun i => if i < L0.length then i else k)).tok (if i = k then L0.length else i) = some c := by
    intro i c hi hc
    by_cases e : i = k
    · subst e
      rw [if_pos rfl, Env.res_tok (by omega), if_neg (by omega)]; exact hc
    · simp only [e, decide_false, Bool.or_false, decide_eq_true_eq] at hi
      rw [if_neg e, Env.res_tok (by omega), if_pos hi]; exact hc
  have low : ∀ (i : Nat) (c : Blk), (L0 ++ [b])[i]? = some c → (i < L0.length ∧ L0[i]? = some c) ∨ (i = L0.length ∧ c = b) := fun i c hc => by
    rw [List.getElem?_append] at hc
    split at hc
    · rename_i hi; exact .inl ⟨hi, hc⟩
    · have hi' : i = L0.length := by
        rcases Nat.lt_or_ge (i - L0.length) 1 with h1 | h1
        · omega
        · rw [List.getElem?_eq_none (by simpa using h1)] at hc; cases hc
      subst hi'
      simp at hc; exact .inr ⟨rfl, hc.symm⟩
  have hren := hR.renum (L' := L0 ++ [b]) (fun i => if i < L0.length then i else k) (fun i j hi hj e => by
    rw [lenL] at hi hj
    split at e <;> split at e <;> omega) (fun i n sz hi => by
    rcases low i _ hi with ⟨h1, h2⟩ | ⟨h1, h2⟩
    · rw [if_pos h1, List.getElem?_append_left h1]; exact h2
    · subst h2; simp [Blk.live] at hlv) (fun i c hc hlive => by
    rcases low i _ hc with ⟨h1, h2⟩ | ⟨h1, h2⟩
    · have h3 : (L0 ++ L2)[i]? = some c := by rw [List.getElem?_append_left h1]; exact h2
      refine ⟨c, by rw [if_pos h1]; exact h3, hlive, ?_⟩
      refine BRel.cut (E := E) (E' := E.res (L0 ++ [b]).length (fun i => if i < L0.length then i else k)) (p := fun i => decide (i < L0.length)) (fun _ _ _ x => x) (fun j c hj hc => ?_) (fun j c hj hc => ?_) (fun c hc => ?_) hlive (hw c (List.mem_of_getElem? h2)) (hR.blk i c h3)
      · have hj : j < L0.length := by simpa using hj
        rw [Env.res_loc (by omega), if_pos hj]; exact hc
      · have hj : j < L0.length := by simpa using hj
        rw [Env.res_tok (by omega), if_pos hj]; exact hc
      · rw [Env.res_loc (by omega), if_pos h1]; exact hc
    · subst h1; subst h2
      refine ⟨c, by simpa using hL, hlive, ?_⟩
      have hB := hR.blk k _ hL
      have hlk : ∀ d, E.loc k = some d → (E.res (L0 ++ [c]).length (fun i => if i < L0.length then i else k)).loc L0.length = some d := fun d hd => by
        have := hloc k d (by simp) hd
        rwa [if_pos rfl] at this
      have cutv : ∀ x v, x.refs (fun i => decide (i < L0.length)) = true → VR E x v → VR (E.res (L0 ++ [c]).length (fun i => if i < L0.length then i else k)) x v := fun x v hx hv => by
        refine VR.cut (E := E) (E' := E.res (L0 ++ [c]).length (fun i => if i < L0.length then i else k)) (p := fun i => decide (i < L0.length)) (fun _ _ _ x => x) (fun j d hj hd => ?_) (fun j d hj hd => ?_) x v hx hv
        · have hj : j < L0.length := by simpa using hj
          rw [Env.res_loc (by omega), if_pos hj]; exact hd
        · have hj : j < L0.length := by simpa using hj
          rw [Env.res_tok (by omega), if_pos hj]; exact hd
      cases c <;> simp only [Blk.live, Bool.false_eq_true] at hlive <;> simp only [BRel, Blk.refs] at hB hb ⊢
      · obtain ⟨d, cs, ty, fr, g1, g2, g3, g4, g5, g6⟩ := hB
        exact ⟨d, cs, ty, fr, hlk d g1, g2, g3, g4, fun j a ha => let ⟨x, q1, q2⟩ := g5 j a ha; ⟨x, q1, cutv a x (AV.refsL_iff.1 hb a (List.mem_of_getElem? ha)) q2⟩, g6⟩
      · obtain ⟨d, rs, g1, g2, g3⟩ := hB
        refine ⟨d, rs, hlk d g1, g2, ?_⟩
        refine MapRel.cut (E := E) (E' := E.res (L0 ++ [_]).length (fun i => if i < L0.length then i else k)) (p := fun i => decide (i < L0.length)) (fun _ _ _ x => x) (fun j d hj hd => ?_) (fun j d hj hd => ?_) hb g3
        · have hj : j < L0.length := by simpa using hj
          rw [Env.res_loc (by omega), if_pos hj]; exact hd
        · have hj : j < L0.length := by simpa using hj
          rw [Env.res_tok (by omega), if_pos hj]; exact hd
      · rename_i m _ _ _
        obtain ⟨d, q, g1, g2, g3, g4⟩ := hB
        refine ⟨d, q, hlk d g1, g2, g3, ?_⟩
        cases m with
        | none => exact g4
        | some j =>
          obtain ⟨d', q1, q2⟩ := g4
          have hj : j < L0.length := by simpa [Blk.refs] using hb
          exact ⟨d', by rw [Env.res_loc (by omega), if_pos hj]; exact q1, q2⟩
      · obtain ⟨d, g1, g2⟩ := hB
        exact ⟨d, hlk d g1, g2⟩)
  exact ⟨E.res (L0 ++ [b]).length (fun i => if i < L0.length then i else k), _, _, res_le h0 hn (by omega) _ hg, h, VR.ren (E := E) (E' := E.res (L0 ++ [b]).length (fun i => if i < L0.length then i else k)) (p := fun i => decide (i < L0.length) || decide (i = k)) (fun _ _ _ x => x) hloc htok r v hr hv, hren⟩

end
end Go.Proofs.YtpednpndahgleaaGreatDoor.Av
