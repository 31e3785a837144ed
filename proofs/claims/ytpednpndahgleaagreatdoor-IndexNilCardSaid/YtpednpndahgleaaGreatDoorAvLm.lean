/- Operations on maps whose keys are numbers, texts, truths: each does what it is said to do. No program in sight. -/
import Derived.Test.YtpednpndahgleaaGreatDoorAvL
import Derived.MapKept
import Derived.Laws.StructEq
set_option linter.unusedSimpArgs false
set_option linter.unusedVariables false
namespace Go.Proofs.YtpednpndahgleaaGreatDoor.Av
open Go Go.MapKept

section
variable {P : Program} {w0 : World} {S0 : Nat → Prop} {E : Env} {L : List Blk} {w : World} {T : Tm} {a : Act}

def KeyK.desc : KeyK → TypeDesc → Prop
  | .int, d => ∃ k, d = .int k
  | .str, d => d = .string
  | .bool, d => d = .bool
  | .st _, _ => False
def KeyK.flat : KeyK → Bool
  | .st _ => false
  | _ => true
theorem lowKey_desc {kt : TypeId} {kd : KeyK} (h : lowKey P kt = some kd) (hfl : kd.flat = true) : ∃ d, P.underlying kt = some d ∧ kd.desc d := by
  unfold lowKey at h
  split at h <;> try simp only [Option.some.injEq, reduceCtorEq] at h
  · rename_i k hk; subst h; exact ⟨_, hk, k, rfl⟩
  · rename_i hk; subst h; exact ⟨_, hk, rfl⟩
  · rename_i hk; subst h; exact ⟨_, hk, rfl⟩
  · split at h
    · simp only [Option.map_eq_some_iff] at h; obtain ⟨_, _, rfl⟩ := h; cases hfl
    · cases h

theorem keyq_same {kd : KeyK} {d : TypeDesc} {k q : AV} {u v : Value} {b : Bool} (hd : kd.desc d) (hfl : kd.flat = true) (hf : keyFit kd k = true) (hk : VR E k u) (hq : VR E q v) (h : keyq k q = some b) : Instr.sameNow d u v = some b := by
  cases kd <;> try (cases hfl; done)
  all_goals cases k <;> simp only [keyFit, Bool.false_eq_true] at hf <;> cases q <;> simp only [keyq, reduceCtorEq] at h <;> simp only [VR] at hk hq <;> subst hk <;> subst hq <;> simp only [KeyK.desc] at hd
  · obtain ⟨k, rfl⟩ := hd
    split at h <;> simp only [Option.some.injEq, reduceCtorEq] at h
    rename_i e
    subst e; subst h
    simp only [Instr.sameNow, if_true]
    rfl
  · subst hd
    simp only [Option.some.injEq] at h; subst h
    simp only [Instr.sameNow, Option.some.injEq]
    rename_i a b
    by_cases e : a = b
    · subst e; simp [bytes_beq]
    · simp only [e, decide_false]
      rcases h' : (({ data := { toList := a } } : ByteArray) == { data := { toList := b } }) with _ | _
      · rfl
      · have := (bytes_beq _ _).1 h'
        simp at this; exact absurd this e
  · subst hd
    simp only [Option.some.injEq] at h; subst h
    simp only [Instr.sameNow, Option.some.injEq]
    rename_i a b
    cases a <;> cases b <;> rfl

theorem key_check {kd : KeyK} {kt : TypeId} {d : TypeDesc} {k : AV} {u : Value} (hu : P.underlying kt = some d) (hd : kd.desc d) (hf : keyFit kd k = true) (hk : VR E k u) (e : Bool) (n : Nat) : (Instr.checkKey e (n + 1) kt u).run P w = .ok () w := by
  unfold Instr.checkKey
  cases kd <;> try (exact hd.elim)
  all_goals cases k <;> simp only [keyFit, Bool.false_eq_true] at hf <;> simp only [VR] at hk <;> subst hk <;> simp only [KeyK.desc] at hd
  · obtain ⟨k, rfl⟩ := hd
    simp [Sem.run_bind, run_underlying hu, Result.andThen]
  · subst hd; simp [Sem.run_bind, run_underlying hu, Result.andThen]
  · subst hd; simp [Sem.run_bind, run_underlying hu, Result.andThen]

theorem key_bits {kd : KeyK} {k q : AV} {u v : Value} (hfl : kd.flat = true) (hf : keyFit kd k = true) (hk : VR E k u) (hq : VR E q v) (h : keyq k q = some true) (n : Nat) : Instr.sameBits n v u = true := by
  cases kd <;> try (cases hfl; done)
  all_goals cases k <;> simp only [keyFit, Bool.false_eq_true] at hf <;> cases q <;> simp only [keyq, reduceCtorEq] at h <;> simp only [VR] at hk hq <;> subst hk <;> subst hq
  · split at h <;> simp only [Option.some.injEq, reduceCtorEq, decide_eq_true_eq] at h
    rename_i e; subst e; subst h
    simp [Instr.sameBits]
  · simp only [Option.some.injEq, decide_eq_true_eq] at h; subst h
    simp [Instr.sameBits, bytes_beq]
  · simp only [Option.some.injEq, decide_eq_true_eq] at h; subst h
    simp [Instr.sameBits]

theorem mfind_spec {kd : KeyK} {d : TypeDesc} {k : AV} {u : Value} (hd : kd.desc d) (hfl : kd.flat = true) (hf : keyFit kd k = true) (hk : VR E k u) : ∀ {es : List (AV × AV × Nat)} {rs : List MapEntry} {i : Nat} {r : Option (Nat × AV)}, MapRel E es rs → mfind k es i = some r →
    match r with
    | none => Instr.findNow d u rs i = some none
    | some (j, x) => ∃ j0 e q b, j = i + j0 ∧ Instr.findNow d u rs i = some (some (i + j0, e.val)) ∧ rs[j0]? = some e ∧ es[j0]? = some (q, x, b) ∧ VR E x e.val ∧ VR E q e.key ∧ keyq k q = some true
  | [], rs, i, r, hm, h => by
    simp only [MapRel] at hm; subst hm
    simp only [mfind, Option.some.injEq] at h; subst h
    rfl
  | (q, x, b) :: l, rs, i, r, hm, h => by
    simp only [MapRel] at hm
    obtain ⟨e, t, rfl, h1, h2, h3, h4⟩ := hm
    simp only [mfind] at h
    split at h
    · rename_i hq
      simp only [Option.some.injEq] at h; subst h
      have := keyq_same hd hfl hf hk h1 hq
      exact ⟨0, e, q, b, rfl, by simp [Instr.findNow, this], rfl, rfl, h2, h1, hq⟩
    · rename_i hq
      have h0 := keyq_same hd hfl hf hk h1 hq
      have ih := mfind_spec hd hfl hf hk h4 h
      cases r with
      | none => simp only at ih ⊢; simp [Instr.findNow, h0, ih]
      | some p =>
        obtain ⟨j, y⟩ := p
        obtain ⟨j0, e', q', b', rfl, g1, g2, g3, g4⟩ := ih
        exact ⟨j0 + 1, e', q', b', by omega, by simp [Instr.findNow, h0, g1]; omega, by simpa using g2, by simpa using g3, g4⟩
    · cases h

/-! ### Keys that are structs of one-cell fields -/
def FldOk (P : Program) : Nat → List Field → List PKey → Prop
  | _, [], [] => True
  | i, f :: fs, k :: ks => f.offset = i ∧ f.name ≠ "_" ∧ lowP P f.type = some k ∧ FldOk P (i + 1) fs ks
  | _, _, _ => False
theorem lowFs_ok : ∀ {fs : List Field} {i : Nat} {ks : List PKey}, lowFs P i fs = some ks → FldOk P i fs ks
  | [], i, ks, h => by simp only [lowFs, Option.some.injEq] at h; subst h; trivial
  | f :: fs, i, ks, h => by
    simp only [lowFs] at h
    split at h
    · rename_i hc
      split at h
      · rename_i k ks' h1 h2
        simp only [Option.some.injEq] at h; subst h
        exact ⟨hc.1, hc.2, h1, lowFs_ok h2⟩
      · cases h
    · cases h
theorem lowKey_st {kt : TypeId} {ks : List PKey} (h : lowKey P kt = some (.st ks)) : ∃ fs : Array Field, P.underlying kt = some (.struct fs) ∧ P.stoodInHeld kt = false ∧ FldOk P 0 fs.toList ks := by
  unfold lowKey at h
  split at h <;> try simp only [Option.some.injEq, reduceCtorEq] at h
  rename_i fs hu
  split at h
  · rename_i hs
    simp only [Option.map_eq_some_iff, KeyK.st.injEq] at h
    obtain ⟨ks', h1, rfl⟩ := h
    exact ⟨fs, hu, hs, lowFs_ok h1⟩
  · cases h

theorem lowP_desc {t : TypeId} {k : PKey} (h : lowP P t = some k) : (k = .int ∧ ∃ q, P.underlying t = some (.int q)) ∨ (k = .str ∧ P.underlying t = some .string) ∨ (k = .bool ∧ P.underlying t = some .bool) := by
  unfold lowP at h
  split at h <;> simp only [Option.some.injEq, reduceCtorEq] at h <;> subst h
  · rename_i q hq; exact .inl ⟨rfl, q, hq⟩
  · rename_i hq; exact .inr (.inl ⟨rfl, hq⟩)
  · rename_i hq; exact .inr (.inr ⟨rfl, hq⟩)

theorem part_P {t : TypeId} {k : PKey} (h : lowP P t = some k) {cs : Array Value} {i : Nat} {v : Value} (hc : cs[i]? = some v) (w : World) : (part t cs i).run P w = .ok v w := by
  rcases lowP_desc h with ⟨_, q, hu⟩ | ⟨_, hu⟩ | ⟨_, hu⟩ <;> simp [part, isAgg, run_underlying hu, hc]

theorem check_P {t : TypeId} {k : PKey} (h : lowP P t = some k) (e : Bool) (n : Nat) (v : Value) (w : World) : (Instr.checkKey e (n + 1) t v).run P w = .ok () w := by
  unfold Instr.checkKey
  rcases lowP_desc h with ⟨_, q, hu⟩ | ⟨_, hu⟩ | ⟨_, hu⟩ <;> simp [Sem.run_bind, run_underlying hu, Result.andThen]

theorem pFitL_len : ∀ {ks : List PKey} {l : List AV}, pFitL ks l = true → ks.length = l.length
  | [], [], _ => rfl
  | [], _ :: _, h => by simp [pFitL] at h
  | _ :: _, [], h => by simp [pFitL] at h
  | k :: ks, a :: l, h => by
    simp only [pFitL, Bool.and_eq_true] at h
    simp [pFitL_len h.2]

theorem check_st {kt : TypeId} {ks : List PKey} {fs : Array Field} {cs : Array Value} (hu : P.underlying kt = some (.struct fs)) (hf : FldOk P 0 fs.toList ks) (hc : ks.length ≤ cs.size) (e : Bool) (n : Nat) (w : World) :
    (Instr.checkKey e (n + 2) kt (.agg cs)).run P w = .ok () w := by
  have key : ∀ (l : List Field) (ks : List PKey) (i : Nat), FldOk P i l ks → i + ks.length ≤ cs.size → ∀ (body : Field → PUnit → Sem (ForInStep PUnit)), (∀ f u, body f u = if f.name ≠ "_" then (do let x ← part f.type cs f.offset; Instr.checkKey e (n + 1) f.type x; pure (ForInStep.yield PUnit.unit)) else pure (ForInStep.yield PUnit.unit)) → (forIn l PUnit.unit body).run P w = .ok PUnit.unit w := by
    intro l
    induction l with
    | nil => intro ks i _ _ body _; simp
    | cons f l ih =>
      intro ks i h hs body hb
      cases ks with
      | nil => simp [FldOk] at h
      | cons k ks =>
        obtain ⟨h1, h2, h3, h4⟩ := h
        simp only [List.length_cons] at hs
        obtain ⟨v, hv⟩ : ∃ v, cs[i]? = some v := ⟨_, Array.getElem?_eq_getElem (by omega)⟩
        rw [List.forIn_cons, hb, if_pos h2, h1]
        simp only [Sem.run_bind, part_P h3 hv, check_P h3, Result.andThen_ok, Sem.run_pure]
        exact ih ks (i + 1) h4 (by omega) body hb
  unfold Instr.checkKey
  simp only [Sem.run_bind, run_underlying hu, Result.andThen_ok]
  rw [← Array.forIn_toList]
  have := key fs.toList ks 0 hf (by omega) _ (fun f u => rfl)
  first
    | exact this
    | (refine (congrArg (fun r => Result.andThen r _) this).trans ?_; rfl)
    | (simp only [Sem.run_bind, this, Result.andThen_ok]; rfl)

theorem eq_P {t : TypeId} {k : PKey} (h : lowP P t = some k) {a b : AV} {u v : Value} {r : Bool} (hf : pFit k a = true) (ha : VR E a u) (hb : VR E b v) (hq : keyq1 a b = some r) (d : Nat) (w : World) : (Op.equalIn (d + 1) t u v).run P w = .ok r w := by
  rcases lowP_desc h with ⟨rfl, q, hu⟩ | ⟨rfl, hu⟩ | ⟨rfl, hu⟩ <;> cases a <;> simp only [pFit, Bool.false_eq_true] at hf <;> cases b <;> simp only [keyq1, reduceCtorEq] at hq <;> simp only [VR] at ha hb <;> subst ha <;> subst hb
  · split at hq <;> simp only [Option.some.injEq, reduceCtorEq] at hq
    rename_i e; subst e; subst hq
    rw [run_equalIn_int w d t _ _ _ _ hu]
    rfl
  · simp only [Option.some.injEq] at hq; subst hq
    rw [run_equalIn_string w d t _ _ hu, ← beq_toListBytes]
    rename_i a b
    congr 1
    by_cases e : a = b
    · subst e; simp [bytes_beq]
    · simp only [e, decide_false]
      rcases h' : (({ data := { toList := a } } : ByteArray) == { data := { toList := b } }) with _ | _
      · rfl
      · have := (bytes_beq _ _).1 h'
        simp at this; exact absurd this e
  · simp only [Option.some.injEq] at hq; subst hq
    rw [run_equalIn_bool' w d t _ _ hu]
    rename_i a b
    cases a <;> cases b <;> rfl

theorem eq_fs (d : Nat) (xs ys : Array Value) (w : World) : ∀ (fs : List Field) (ks : List PKey) (i : Nat) (l m : List AV) (us vs : List Value) (r : Bool), FldOk P i fs ks → pFitL ks l = true → VRL E l us → VRL E m vs → (∀ j, us[j]? = xs[i + j]?) → (∀ j, vs[j]? = ys[i + j]?) → keyqL l m = some r → (Op.eqFields (d + 1) xs ys fs).run P w = .ok r w
  | [], ks, i, l, m, us, vs, r, hf, hp, hl, hm, hx, hy, hq => by
    cases ks with
    | cons k ks => simp [FldOk] at hf
    | nil =>
      cases l with
      | cons a l => simp [pFitL] at hp
      | nil =>
        cases m with
        | cons b m => simp [keyqL] at hq
        | nil => simp only [keyqL, Option.some.injEq] at hq; subst hq; simp [Op.eqFields]
  | f :: fs, ks, i, l, m, us, vs, r, hf, hp, hl, hm, hx, hy, hq => by
    cases ks with
    | nil => simp [FldOk] at hf
    | cons k ks =>
      cases l with
      | nil => simp [pFitL] at hp
      | cons a l =>
        cases m with
        | nil => simp [keyqL] at hq
        | cons b m =>
          obtain ⟨h1, h2, h3, h4⟩ := hf
          simp only [pFitL, Bool.and_eq_true] at hp
          simp only [VRL] at hl hm
          obtain ⟨u, us', rfl, hu, hus⟩ := hl
          obtain ⟨v, vs', rfl, hv, hvs⟩ := hm
          have ex : xs[i]? = some u := by have := hx 0; simpa using this.symm
          have ey : ys[i]? = some v := by have := hy 0; simpa using this.symm
          simp only [keyqL] at hq
          simp only [Op.eqFields, ne_eq, h2, not_false_eq_true, if_true, h1, Sem.run_bind, part_P h3 ex, part_P h3 ey, Result.andThen_ok]
          cases hk : keyq1 a b with
          | none => rw [hk] at hq; cases hq
          | some c =>
            rw [hk] at hq
            rw [eq_P h3 hp.1 hu hv hk d w]
            cases c with
            | false => simp only [Option.some.injEq] at hq; subst hq; simp
            | true =>
              simp only [Result.andThen_ok, Bool.not_true, Bool.false_eq_true, if_false]
              exact eq_fs d xs ys w fs ks (i + 1) l m us' vs' r h4 hp.2 hus hvs (fun j => by have := hx (j + 1); rw [show i + (j + 1) = i + 1 + j by omega] at this; simpa using this) (fun j => by have := hy (j + 1); rw [show i + (j + 1) = i + 1 + j by omega] at this; simpa using this) hq

theorem equal_st {kt : TypeId} {ks : List PKey} {fs : Array Field} (hu : P.underlying kt = some (.struct fs)) (hs : P.stoodInHeld kt = false) (hf : FldOk P 0 fs.toList ks) {l : List AV} {q : AV} {u v : Value} {r : Bool} (hp : pFitL ks l = true) (hk : VR E (.agg l) u) (hv : VR E q v) (hq : keyq (.agg l) q = some r) (w : World) :
    (Op.equal kt u v).run P w = .ok r w := by
  cases q <;> simp only [keyq, reduceCtorEq] at hq
  rename_i m
  simp only [VR] at hk hv
  obtain ⟨us, rfl, hus⟩ := hk
  obtain ⟨vs, rfl, hvs⟩ := hv
  have e : P.fieldsOf kt = fs := by simp [Program.fieldsOf, hu]
  have := run_equalIn_struct (P := P) w 9999 kt ⟨us⟩ ⟨vs⟩ (by rw [e]; exact hu) hs
  rw [e, eq_fs 9998 ⟨us⟩ ⟨vs⟩ w fs.toList ks 0 l m us vs r hf hp hus hvs (fun j => by simp) (fun j => by simp) hq] at this
  exact this

theorem asking_spec {kt : TypeId} {ks : List PKey} {fs : Array Field} (hu : P.underlying kt = some (.struct fs)) (hs : P.stoodInHeld kt = false) (hf : FldOk P 0 fs.toList ks) {l : List AV} {u : Value} (hp : pFitL ks l = true) (hk : VR E (.agg l) u) (w : World) : ∀ {es : List (AV × AV × Nat)} {rs : List MapEntry} {i : Nat} {r : Option (Nat × AV)}, MapRel E es rs → mfind (.agg l) es i = some r →
    match r with
    | none => (Instr.findAsking kt u rs i).run P w = .ok none w
    | some (j, x) => ∃ j0 e q b, j = i + j0 ∧ (Instr.findAsking kt u rs i).run P w = .ok (some (i + j0, e.val)) w ∧ rs[j0]? = some e ∧ es[j0]? = some (q, x, b) ∧ VR E x e.val ∧ VR E q e.key ∧ keyq (.agg l) q = some true
  | [], rs, i, r, hm, h => by
    simp only [MapRel] at hm; subst hm
    simp only [mfind, Option.some.injEq] at h; subst h
    simp [Instr.findAsking]
  | (q, x, b) :: es, rs, i, r, hm, h => by
    simp only [MapRel] at hm
    obtain ⟨e, t, rfl, h1, h2, h3, h4⟩ := hm
    simp only [mfind] at h
    split at h
    · rename_i hq
      simp only [Option.some.injEq] at h; subst h
      have := equal_st hu hs hf hp hk h1 hq w
      exact ⟨0, e, q, b, rfl, by simp [Instr.findAsking, this], rfl, rfl, h2, h1, hq⟩
    · rename_i hq
      have h0 := equal_st hu hs hf hp hk h1 hq w
      have ih := asking_spec hu hs hf hp hk w h4 h
      cases r with
      | none => simp only at ih ⊢; simp [Instr.findAsking, h0, ih]
      | some p =>
        obtain ⟨j, y⟩ := p
        obtain ⟨j0, e', q', b', rfl, g1, g2, g3, g4⟩ := ih
        exact ⟨j0 + 1, e', q', b', by omega, by simp [Instr.findAsking, h0, g1]; omega, by simpa using g2, by simpa using g3, g4⟩
    · cases h

theorem bits_L : ∀ {l m : List AV} {us vs : List Value} {ks : List PKey} (n : Nat), pFitL ks l = true → VRL E l us → VRL E m vs → keyqL l m = some true → us.length = vs.length ∧ ((vs.zip us).all fun (x, y) => Instr.sameBits n x y) = true
  | [], m, us, vs, ks, n, hp, hl, hm, hq => by
    cases m with
    | cons b m => simp [keyqL] at hq
    | nil => simp only [VRL] at hl hm; subst hl; subst hm; simp
  | a :: l, m, us, vs, ks, n, hp, hl, hm, hq => by
    cases m with
    | nil => simp [keyqL] at hq
    | cons b m =>
      cases ks with
      | nil => simp [pFitL] at hp
      | cons k ks =>
        simp only [pFitL, Bool.and_eq_true] at hp
        simp only [VRL] at hl hm
        obtain ⟨u, us', rfl, hu, hus⟩ := hl
        obtain ⟨v, vs', rfl, hv, hvs⟩ := hm
        simp only [keyqL] at hq
        cases hk : keyq1 a b with
        | none => rw [hk] at hq; cases hq
        | some c =>
          rw [hk] at hq
          cases c with
          | false => simp at hq
          | true =>
            obtain ⟨i1, i2⟩ := bits_L n hp.2 hus hvs hq
            refine ⟨by simp [i1], ?_⟩
            simp only [List.zip_cons_cons, List.all_cons, i2, Bool.and_true]
            cases a <;> cases b <;> simp only [keyq1, reduceCtorEq] at hk <;> simp only [VR] at hu hv <;> subst hu <;> subst hv
            · simp only [Option.some.injEq, decide_eq_true_eq] at hk; subst hk; simp [Instr.sameBits]
            · split at hk <;> simp only [Option.some.injEq, reduceCtorEq, decide_eq_true_eq] at hk
              rename_i e; subst e; subst hk; simp [Instr.sameBits]
            · simp only [Option.some.injEq, decide_eq_true_eq] at hk; subst hk; simp [Instr.sameBits, bytes_beq]

/-! ### All keys -/
theorem key_check' {kd : KeyK} {kt : TypeId} {k : AV} {u : Value} (hkd : lowKey P kt = some kd) (hf : keyFit kd k = true) (hk : VR E k u) (e : Bool) : (Instr.checkKey e 10000 kt u).run P w = .ok () w := by
  cases hfl : kd.flat with
  | true =>
    obtain ⟨d, h1, h2⟩ := lowKey_desc hkd hfl
    exact key_check h1 h2 hf hk e 9999
  | false =>
    cases kd <;> simp only [KeyK.flat, reduceCtorEq] at hfl
    obtain ⟨fs, h1, h2, h3⟩ := lowKey_st hkd
    cases k <;> simp only [keyFit, Bool.false_eq_true] at hf
    simp only [VR] at hk
    obtain ⟨us, rfl, hus⟩ := hk
    exact check_st h1 h3 (by rw [pFitL_len hf]; simp [hus.length]) e 9998 w

theorem key_bits' {kd : KeyK} {k q : AV} {u v : Value} (hf : keyFit kd k = true) (hk : VR E k u) (hq : VR E q v) (h : keyq k q = some true) : Instr.sameBits 10000 v u = true := by
  cases hfl : kd.flat with
  | true => exact key_bits hfl hf hk hq h 10000
  | false =>
    cases kd <;> simp only [KeyK.flat, reduceCtorEq] at hfl
    cases k <;> simp only [keyFit, Bool.false_eq_true] at hf
    cases q <;> simp only [keyq, reduceCtorEq] at h
    simp only [VR] at hk hq
    obtain ⟨us, rfl, hus⟩ := hk
    obtain ⟨vs, rfl, hvs⟩ := hq
    obtain ⟨i1, i2⟩ := bits_L 9999 hf hus hvs h
    show Instr.sameBits (9999 + 1) (.agg ⟨vs⟩) (.agg ⟨us⟩) = true
    simp only [Instr.sameBits, i2, Bool.and_true]
    simp [i1]

theorem find_spec {kd : KeyK} {kt : TypeId} {k : AV} {u : Value} (hkd : lowKey P kt = some kd) (hf : keyFit kd k = true) (hk : VR E k u) {es : List (AV × AV × Nat)} {rs : List MapEntry} {r : Option (Nat × AV)} (hm : MapRel E es rs) (h : mfind k es 0 = some r) (w : World) :
    match r with
    | none => (Instr.findKey kt u rs).run P w = .ok none w
    | some (j, x) => ∃ e q b, (Instr.findKey kt u rs).run P w = .ok (some (j, e.val)) w ∧ rs[j]? = some e ∧ es[j]? = some (q, x, b) ∧ VR E x e.val ∧ VR E q e.key ∧ keyq k q = some true := by
  cases hfl : kd.flat with
  | true =>
    obtain ⟨d, h1, h2⟩ := lowKey_desc hkd hfl
    have hs := mfind_spec h2 hfl hf hk hm h
    cases r with
    | none => exact run_findKey h1 hs
    | some p =>
      obtain ⟨j, x⟩ := p
      obtain ⟨j0, e, q, b, rfl, g1, g2, g3, g4⟩ := hs
      exact ⟨e, q, b, by have := run_findKey (P := P) (w := w) h1 g1; exact this, by simpa using g2, by simpa using g3, g4⟩
  | false =>
    cases kd <;> simp only [KeyK.flat, reduceCtorEq] at hfl
    obtain ⟨fs, h1, h2, h3⟩ := lowKey_st hkd
    cases k <;> simp only [keyFit, Bool.false_eq_true] at hf
    have hs := asking_spec h1 h2 h3 hf hk w hm h
    have hfk : (Instr.findKey kt u rs).run P w = (Instr.findAsking kt u rs 0).run P w := by
      simp only [Instr.findKey, Sem.run_bind, run_underlying h1, Result.andThen_ok]
      cases rs with
      | nil => simp [Instr.findNow, Instr.findAsking]
      | cons e rs => simp [Instr.findNow, Instr.sameNow]
    rw [hfk]
    cases r with
    | none => exact hs
    | some p =>
      obtain ⟨j, x⟩ := p
      obtain ⟨j0, e, q, b, rfl, g1, g2, g3, g4⟩ := hs
      exact ⟨e, q, b, g1, by simpa using g2, by simpa using g3, g4⟩

theorem good_mkmap {t kt et : TypeId} (hR : Rel w0 S0 E L w) (hd : P.underlying t = some (.map kt et)) : Good P w0 S0 E (L ++ [.map [] 0]) (.lmap L.length) w (Instr.makeMap t none) := by
  have := hR.push (.map #[] 0) (.map [] 0) ⟨w.heap.size, 0, 0⟩ rfl rfl ⟨⟨w.heap.size, 0, 0⟩, #[], by simp, by simp, rfl⟩
  refine ⟨_, .map (some w.heap.size), _, ?_, this.1, ?_, this.2⟩
  · simp [Instr.makeMap]
  · simp only [VR]
    exact ⟨⟨w.heap.size, 0, 0⟩, by simp, rfl⟩

theorem zvOf_run {t : TypeId} {a : AV} (h : zvOf P t = some a) : ∃ v, (∀ w, (zeroValue t).run P w = .ok v w) ∧ VR E a v := by
  unfold zvOf at h
  simp only [Option.bind_eq_some_iff] at h
  obtain ⟨v, ⟨i, h1, h2⟩, h3⟩ := h
  exact ⟨v, fun w => by simp [zeroValue, typeInfo, h1, h2], lowC_sound h3⟩

theorem map_blk (hR : Rel w0 S0 E L w) {i : Nat} {es : List (AV × AV × Nat)} {ck : Nat} {u : Value} (hi : L[i]? = some (.map es ck)) (hv : VR E (.lmap i) u) :
    ∃ c rs, E.loc i = some c ∧ u = .map (some c.blk) ∧ w.heap[c.blk]? = some (.map rs ck) ∧ MapRel E es rs.toList := by
  simp only [VR] at hv
  obtain ⟨c, hc, rfl⟩ := hv
  obtain ⟨c', rs, h1, h2, h3⟩ := hR.blk i _ hi
  rw [hc] at h1; cases h1
  exact ⟨c, rs, hc, rfl, h2, h3⟩

theorem good_mgetN {t kt et : TypeId} {kd : KeyK} {z k : AV} {u v : Value} (ok : Bool) (hR : Rel w0 S0 E L w) (hd : P.underlying t = some (.map kt et)) (hkd : lowKey P kt = some kd) (hz : zvOf P et = some z) (hu : VR E .nilmap u) (hf : keyFit kd k = true) (hk : VR E k v) :
    Good P w0 S0 E L (if ok then .tup [z, .bool false] else z) w (Instr.lookup t u v ok) := by
  simp only [VR] at hu; subst hu
  obtain ⟨zv, h3, h4⟩ := zvOf_run (E := E) hz
  have hc : ∀ e, (Instr.checkKey e 10000 kt v).run P w = .ok () w := fun e => key_check' hkd hf hk e
  have hfk : (Instr.findKey kt v []).run P w = .ok none w := find_spec (E := E) (es := []) (r := none) hkd hf hk (by simp [MapRel]) (by simp [mfind]) w
  refine .same hR (v := if ok then .tuple #[zv, .bool false] else zv) ?_ ?_
  · simp [Instr.lookup, run_underlying hd, hc, hfk, h3]
    try (cases ok <;> rfl)
  · cases ok
    · exact h4
    · simp only [if_true, VR]; exact ⟨[zv, .bool false], rfl, by simp [VRL, VR, h4]⟩

theorem good_mget {t kt et : TypeId} {kd : KeyK} {z k av : AV} {u v : Value} {i ck : Nat} {es : List (AV × AV × Nat)} {r : Option (Nat × AV)} (ok : Bool) (hR : Rel w0 S0 E L w) (hd : P.underlying t = some (.map kt et)) (hkd : lowKey P kt = some kd) (hz : zvOf P et = some z) (hi : L[i]? = some (.map es ck)) (hu : VR E (.lmap i) u) (hf : keyFit kd k = true) (hk : VR E k v)
    (hm : mfind k es 0 = some r) (hav : av = match r with | some (_, x) => if ok then .tup [x, .bool true] else x | none => if ok then .tup [z, .bool false] else z) :
    Good P w0 S0 E L av w (Instr.lookup t u v ok) := by
  obtain ⟨c, rs, hc, rfl, hb, hmr⟩ := map_blk hR hi hu
  obtain ⟨zv, h3, h4⟩ := zvOf_run (E := E) hz
  have hck : ∀ e, (Instr.checkKey e 10000 kt v).run P w = .ok () w := fun e => key_check' hkd hf hk e
  have hg : (getObj c.blk).run P w = .ok (.map rs ck) w := by simp [getObj, Sem.run, hb]
  have hs := find_spec hkd hf hk hmr hm w
  cases r with
  | none =>
    subst hav
    have hfk : (Instr.findKey kt v rs.toList).run P w = .ok none w := hs
    refine .same hR (v := if ok then .tuple #[zv, .bool false] else zv) ?_ ?_
    · simp [Instr.lookup, run_underlying hd, hg, hck, hfk, h3]
      try (cases ok <;> rfl)
    · cases ok
      · exact h4
      · simp only [if_true, VR]; exact ⟨[zv, .bool false], rfl, by simp [VRL, VR, h4]⟩
  | some p =>
    obtain ⟨j, x⟩ := p
    subst hav
    obtain ⟨e, q, b, hfk, g2, g3, g4, _⟩ := hs
    refine .same hR (v := if ok then .tuple #[e.val, .bool true] else e.val) ?_ ?_
    · simp [Instr.lookup, run_underlying hd, hg, hck, hfk]
      try (cases ok <;> rfl)
    · cases ok
      · exact g4
      · simp only [if_true, VR]; exact ⟨[e.val, .bool true], rfl, by simp [VRL, VR, g4]⟩

theorem MapRel.app {es : List (AV × AV × Nat)} {k x : AV} {e : MapEntry} : ∀ {rs : List MapEntry}, MapRel E es rs → VR E k e.key → VR E x e.val → MapRel E (es ++ [(k, x, e.born)]) (rs ++ [e]) := by
  induction es with
  | nil => intro rs h hk hx; simp only [MapRel] at h; subst h; exact ⟨e, [], rfl, hk, hx, rfl, rfl⟩
  | cons p es ih =>
    intro rs h hk hx
    obtain ⟨q, y, b⟩ := p
    obtain ⟨f, t, rfl, g1, g2, g3, g4⟩ := h
    exact ⟨f, t ++ [e], rfl, g1, g2, g3, ih g4 hk hx⟩

theorem MapRel.put {k x : AV} {u v : Value} (hk : VR E k u) (hx : VR E x v) : ∀ {es : List (AV × AV × Nat)} {rs : List MapEntry} {j : Nat}, MapRel E es rs → MapRel E (mput k x es j) (rs.modify j fun e => { e with key := u, val := v })
  | [], rs, j, h => by simp only [MapRel] at h; subst h; simp [mput, MapRel]
  | (q, y, b) :: es, rs, 0, h => by
    obtain ⟨f, t, rfl, g1, g2, g3, g4⟩ := h
    exact ⟨{ f with key := u, val := v }, t, rfl, hk, hx, g3, g4⟩
  | (q, y, b) :: es, rs, j + 1, h => by
    obtain ⟨f, t, rfl, g1, g2, g3, g4⟩ := h
    exact ⟨f, t.modify j fun e => { e with key := u, val := v }, by simp, g1, g2, g3, MapRel.put hk hx (j := j) g4⟩

theorem good_mset {t kt et : TypeId} {kd : KeyK} {k x : AV} {u v y : Value} {i ck : Nat} {es : List (AV × AV × Nat)} {r : Option (Nat × AV)} (hR : Rel w0 S0 E L w) (hd : P.underlying t = some (.map kt et)) (hkd : lowKey P kt = some kd) (hi : L[i]? = some (.map es ck)) (hu : VR E (.lmap i) u) (hf : keyFit kd k = true) (hk : VR E k v) (hx : VR E x y)
    (hm : mfind k es 0 = some r) : ∃ w', (Instr.mapUpdate t u v y).run P w = .ok () w' ∧ Rel w0 S0 E (L.set i (match r with | some (j, _) => .map (mput k x es j) ck | none => .map (es ++ [(k, x, ck)]) (ck + 1))) w' := by
  obtain ⟨c, rs, hc, rfl, hb, hmr⟩ := map_blk hR hi hu
  have hck : ∀ e, (Instr.checkKey e 10000 kt v).run P w = .ok () w := fun e => key_check' hkd hf hk e
  have hg : (getObj c.blk).run P w = .ok (.map rs ck) w := by simp [getObj, Sem.run, hb]
  have hs := find_spec hkd hf hk hmr hm w
  have hlt : c.blk < w.heap.size := (Array.getElem?_eq_some_iff.1 hb).1
  have hso : ∀ o, (setObj c.blk o).run P w = .ok () { w with heap := w.heap.setIfInBounds c.blk o } := fun o => by simp [setObj, Sem.run, hb]
  have turn : ∀ rs' ck' es', MapRel E es' (rs' : Array MapEntry).toList → Rel w0 S0 E (L.set i (.map es' ck')) { w with heap := w.heap.setIfInBounds c.blk (.map rs' ck') } := fun rs' ck' es' hm' =>
    hR.turn (w' := { w with heap := w.heap.setIfInBounds c.blk (.map rs' ck') }) (k' := .map es' ck') hi rfl hc (by simp) (fun b hb => by simp [Array.getElem?_setIfInBounds, Ne.symm hb]) rfl rfl rfl
      ⟨c, rs', hc, by simp [hlt], hm'⟩ (fun _ _ e => by cases e)
  cases r with
  | none =>
    have hfk : (Instr.findKey kt v rs.toList).run P w = .ok none w := hs
    refine ⟨_, ?_, turn (rs.push { key := v, val := y, born := ck }) (ck + 1) _ (by simpa using MapRel.app (e := { key := v, val := y, born := ck }) hmr hk hx)⟩
    simp [Instr.mapUpdate, run_underlying hd, hg, hck, hfk, hso]
  | some p =>
    obtain ⟨j, z⟩ := p
    obtain ⟨e, q, b, hfk, g2, g3, g4, g5, g6⟩ := hs
    have hst : (Instr.keyThatStays e.key v).run P w = .ok v w := by
      simp [Instr.keyThatStays, key_bits' hf hk g5 g6]
    have hget : rs[j]? = some e := by simpa using g2
    refine ⟨_, ?_, turn (rs.modify j fun e => { e with key := v, val := y }) ck _ (by simpa using MapRel.put hk hx (j := j) hmr)⟩
    simp [Instr.mapUpdate, run_underlying hd, hg, hck, hfk, hget, hst, hso]

end
end Go.Proofs.YtpednpndahgleaaGreatDoor.Av
