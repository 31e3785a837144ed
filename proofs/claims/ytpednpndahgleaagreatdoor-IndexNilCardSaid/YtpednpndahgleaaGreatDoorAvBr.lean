/- The bridge: what the arguments of a statement read as, as abstract values; and a statement out of the walk of its law. -/
import Derived.Test.YtpednpndahgleaaGreatDoorAvT
import Derived.WalkKit
import Derived.ProofKit
import Derived.OpenShut
import Derived.JoinedCond
set_option linter.unusedSimpArgs false
namespace Go.Proofs.YtpednpndahgleaaGreatDoor.Av
open Go Go.ChangeShapes Go.WideShapes Go.ChangeAt Go.RowKit
set_option linter.unusedVariables false

/-- The memory as it lies, nothing owned. -/
def EnvW (w : World) : Env := { mem := fun b o => w.cell? ⟨b, o, none⟩, loc := fun _ => none, tok := fun _ => none }

theorem Rel.start (w : World) (hg : GlobOk (EnvW w).mem ∧ GszOk w) : Rel w (fun _ => False) (EnvW w) [] w where
  mem _ _ _ h := h
  blk _ _ h := by simp at h
  fresh _ _ := rfl
  own _ _ _ h := by simp at h
  inj _ _ _ _ _ _ h := by simp at h
  tkfresh _ _ := rfl
  tkown _ _ _ _ _ h := by simp at h
  tkloc _ _ _ _ _ _ _ _ h := by simp at h
  tkinj _ _ _ _ _ _ _ _ _ _ h := by simp at h
  frame _ _ _ := rfl
  size := Nat.le_refl _
  os := rfl
  tape := rfl
  output := rfl
  glob := hg.1
  gsz := hg.2

/-- What cells of type t that can be read hold: the abstract cells of some y that is ok. -/
def Rd (P : Program) (t : TypeId) {X : Type} (ec : X → List AV) (ok : X → Prop) : Prop :=
  ∀ (H : Type) (enc : TypeId × Value → H) (w : World) (fuel : Nat) (cs : List Value) (x : DataW H × List MemPlace),
    DataW.trod enc P w 0 (fun _ => true) true fuel t cs = some x → ∃ y, ok y ∧ VRL (EnvW w) (ec y) cs

theorem Rd.map {P : Program} {t : TypeId} {X Y : Type} {ec : X → List AV} {ok : X → Prop} {ec' : Y → List AV} {ok' : Y → Prop} (h : Rd P t ec ok) (m : ∀ y, ok y → ∃ z, ok' z ∧ ec' z = ec y) : Rd P t ec' ok' := fun H enc w fuel cs x hx => by
  obtain ⟨y, h1, h2⟩ := h H enc w fuel cs x hx
  obtain ⟨z, h3, h4⟩ := m y h1
  exact ⟨z, h3, by rw [h4]; exact h2⟩

theorem rd_bool {P : Program} {t : TypeId} (ht : P.underlying t = some .bool) : Rd P t (fun b : Bool => [.bool b]) (fun _ => True) := fun H enc w fuel cs x hx => by
  obtain ⟨b, rfl, _⟩ := DataW.trod_bool ht hx
  exact ⟨b, trivial, by simp [VRL, VR]⟩

theorem rd_int {P : Program} {t : TypeId} {k : IntKind} (ht : P.underlying t = some (.int k)) : Rd P t (fun n : Int => [.int k n]) (fun n => k.min ≤ n ∧ n ≤ k.max) := fun H enc w fuel cs x hx => by
  obtain ⟨n, rfl, _, hw⟩ := DataW.trod_int ht hx
  simp only [Lit.wf, Bool.and_eq_true, decide_eq_true_eq] at hw
  exact ⟨n, hw, by simp [VRL, VR]⟩

theorem rd_str {P : Program} {t : TypeId} (ht : P.underlying t = some .string) : Rd P t (fun s : List UInt8 => [.str s]) (fun s => s.length ≤ maxLen) := fun H enc w fuel cs x hx => by
  obtain ⟨s, rfl, _, hw⟩ := DataW.trod_string ht hx
  exact ⟨s.data.toList, by simpa using hw, by simp [VRL, VR]⟩

theorem VRC_app {E : Env} : ∀ {l m : List AV} {b o : Nat}, VRC E l b o → VRC E m b (o + l.length) → VRC E (l ++ m) b o
  | [], _, _, _, _, h => by simpa using h
  | a :: l, m, b, o, h, k => by
    simp only [List.cons_append, VRC] at h ⊢
    exact ⟨h.1, VRC_app h.2 (by rw [show o + 1 + l.length = o + (l.length + 1) by omega]; exact k)⟩

theorem pick_list {X : Type} (Q : Nat → X → Prop) : ∀ n, (∀ i, i < n → ∃ y, Q i y) → ∃ ys : List X, ys.length = n ∧ ∀ i y, ys[i]? = some y → Q i y
  | 0, _ => ⟨[], rfl, by simp⟩
  | n + 1, h => by
    obtain ⟨ys, h1, h2⟩ := pick_list Q n fun i hi => h i (by omega)
    obtain ⟨y, hy⟩ := h n (by omega)
    refine ⟨ys ++ [y], by simp [h1], fun i z hz => ?_⟩
    rw [List.getElem?_append] at hz
    split at hz
    · exact h2 i z hz
    · have hi : i - ys.length = 0 := by
        rcases Nat.eq_zero_or_pos (i - ys.length) with e | e
        · exact e
        · rw [List.getElem?_eq_none (by simp; omega)] at hz; cases hz
      rw [hi] at hz; simp at hz; subst hz
      rw [show i = n by omega]; exact hy

theorem VRC_flat {E : Env} {X : Type} {ec : X → List AV} {b sz : Nat} : ∀ {ys : List X} {o : Nat}, (∀ i y, ys[i]? = some y → (ec y).length = sz ∧ VRC E (ec y) b (o + i * sz)) → VRC E (ys.flatMap ec) b o
  | [], _, _ => by simp [VRC]
  | y :: ys, o, h => by
    rw [List.flatMap_cons]
    have h0 := h 0 y rfl
    refine VRC_app (by simpa using h0.2) (VRC_flat (sz := sz) fun i z hz => ?_)
    have := h (i + 1) z hz
    refine ⟨this.1, ?_⟩
    rw [h0.1, show o + sz + i * sz = o + (i + 1) * sz by rw [Nat.add_mul]; omega]
    exact this.2

theorem cells?_get {w : World} {a : Addr} {n : Nat} {cs : List Value} (h : w.cells? 0 a n = some cs) : cs.length = n ∧ ∀ i, i < n → w.cell? (a.add i) = cs[i]? := by
  simp only [World.cells?, Nat.zero_le, if_true] at h
  refine ⟨by simpa using mapM_some_length h, fun i hi => ?_⟩
  exact mapM_some_get h i i (by simp [hi])

theorem cell_spot {w : World} {a : Addr} {v : Value} (h : w.cell? a = some v) : a.spot = none := by
  rcases hs : a.spot with _ | s
  · rfl
  · simp only [World.cell?, hs, Option.isSome_some, if_true] at h
    split at h <;> cases h

theorem rd_slice {P : Program} {t e : TypeId} {X : Type} {ec : X → List AV} {ok : X → Prop} (ht : P.underlying t = some (.slice e)) (he : Rd P e ec ok) (hz' : decide (0 < P.cellsOf e) = true) :
    Rd P t (fun l : List X => [.sl (l.flatMap ec) l.length none]) (fun l => l.length ≤ maxLen ∧ ∀ y ∈ l, ok y) := fun H enc w fuel cs x hx => by
  have hz : 0 < P.cellsOf e := of_decide_eq_true hz'
  rcases DataW.trod_slice ht hx with ⟨rfl, _⟩ | ⟨a, len, cap, elems, rest, n, _, rfl, _, _, hlc, hcap, hel, hget, hsp, _⟩
  · exact ⟨[], ⟨by simp, by simp⟩, by simp only [VRL, VR]; exact ⟨_, _, rfl, ⟨none, 0, rfl, Nat.le_refl _, by simp, .inl ⟨rfl, rfl, rfl⟩⟩, rfl⟩⟩
  have hspot : cap ≠ 0 → a.spot = none := fun hc => by
    have first : ∀ r : Option (DataW H × List MemPlace), r ≠ none → (w.cells? 0 (a.add (0 * P.cellsOf e)) (P.cellsOf e)).bind (DataW.trod enc P w 0 (fun _ => true) true n e) = r → a.spot = none := fun r hr h1 => by
      obtain ⟨q, rfl⟩ := Option.ne_none_iff_exists'.1 hr
      rw [Option.bind_eq_some_iff] at h1
      obtain ⟨cs', h2, _⟩ := h1
      obtain ⟨h6, h7⟩ := cells?_get h2
      have h8 := h7 0 hz
      obtain ⟨v, hv⟩ : ∃ v, cs'[0]? = some v := ⟨cs'[0]'(by omega), List.getElem?_eq_getElem _⟩
      rw [hv] at h8
      have := cell_spot h8
      simpa [Addr.add] using this
    by_cases hl : len = 0
    · obtain ⟨r1, r2⟩ := hsp rfl
      exact first rest[0]? (by rw [List.getElem?_eq_getElem (by omega)]; simp) (by simpa [hl] using r2 0 (by omega))
    · exact first elems[0]? (by rw [List.getElem?_eq_getElem (by omega)]; simp) (hget 0 (by omega))
  have each : ∀ i, i < len → ∃ y, ok y ∧ (ec y).length = P.cellsOf e ∧ a.spot = none ∧ VRC (EnvW w) (ec y) a.block (a.off + i * P.cellsOf e) := fun i hi => by
    have h1 := hget i hi
    obtain ⟨q, hq⟩ : ∃ q, elems[i]? = some q := ⟨elems[i]'(by omega), List.getElem?_eq_getElem _⟩
    rw [hq, Option.bind_eq_some_iff] at h1
    obtain ⟨cs', h2, h3⟩ := h1
    obtain ⟨y, h4, h5⟩ := he H enc w n cs' q h3
    obtain ⟨h6, h7⟩ := cells?_get h2
    have hl := h5.length
    have hsp : a.spot = none := hspot (by omega)
    refine ⟨y, h4, by omega, hsp, VRC.of_get fun j u hu => ?_⟩
    obtain ⟨v, h8, h9⟩ := h5.get hu
    refine ⟨v, ?_, h9⟩
    have hj : j < P.cellsOf e := by
      have := (List.getElem?_eq_some_iff.1 hu).1
      omega
    have h10 := h7 j hj
    rw [h8] at h10
    rw [← h10]
    have hadd : ∀ k, a.add k = ⟨a.block, a.off + k, none⟩ := fun k => by
      obtain ⟨b, o, s⟩ := a
      simp only at hsp; subst hsp
      exact Addr.add_mk b o k
    rw [hadd, Addr.add_mk]
    rfl
  obtain ⟨ys, h1, h2⟩ := pick_list _ len each
  refine ⟨ys, ⟨by omega, fun y hy => ?_⟩, ?_⟩
  · obtain ⟨i, hi⟩ := List.getElem?_of_mem hy
    exact (h2 i y hi).1
  · simp only [VRL]
    refine ⟨_, [], rfl, ?_, rfl⟩
    simp only [VR]
    refine ⟨_, _, by rw [h1], by omega, by simp, ?_⟩
    by_cases hc : cap = 0
    · have : ys = [] := by
        have : ys.length = 0 := by omega
        simpa using this
      subst this
      exact .inl ⟨rfl, hc, rfl⟩
    · refine .inr ⟨a.block, a.off, ?_, VRC_flat fun i y hy => ⟨(h2 i y hy).2.1, (h2 i y hy).2.2.2⟩⟩
      have hs : a.spot = none := hspot hc
      cases a; simp only at hs ⊢; rw [hs]

theorem rd_slice1 {P : Program} {t e : TypeId} {X : Type} {a : X → AV} {ok : X → Prop} (ht : P.underlying t = some (.slice e)) (he : Rd P e (fun y => [a y]) ok) (hz : decide (0 < P.cellsOf e) = true) :
    Rd P t (fun l : List X => [.sl (l.map a) l.length none]) (fun l => l.length ≤ maxLen ∧ ∀ y ∈ l, ok y) :=
  Rd.map (rd_slice ht he hz) fun l h => ⟨l, h, by rw [List.map_eq_flatMap]⟩

/-- Fields that stand from cell o on, of N cells. -/
def RdF (P : Program) (N o : Nat) (fs : List Field) {X : Type} (ec : X → List AV) (ok : X → Prop) : Prop :=
  ∀ (H : Type) (enc : TypeId × Value → H) (w : World) (n : Nat) (cs : List Value), cs.length = N →
    (∀ f ∈ fs, ∃ x, DataW.trod enc P w 0 (fun _ => true) true n f.type ((cs.drop f.offset).take (P.cellsOf f.type)) = some x) → ∃ y, ok y ∧ VRL (EnvW w) (ec y) (cs.drop o)

theorem rdF_nil {P : Program} {N o : Nat} (h : o = N) : RdF P N o [] (fun _ : Unit => []) (fun _ => True) := fun H enc w n cs hl _ =>
  ⟨(), trivial, by simp [VRL, h, ← hl]⟩

theorem rdF_cons {P : Program} {N o sz : Nat} {f : Field} {fs : List Field} {X Y : Type} {ec : X → List AV} {ok : X → Prop} {ec' : Y → List AV} {ok' : Y → Prop} (hf : f.offset = o) (hz : P.cellsOf f.type = sz) (h : Rd P f.type ec ok) (r : RdF P N (o + sz) fs ec' ok') :
    RdF P N o (f :: fs) (fun y : X × Y => ec y.1 ++ ec' y.2) (fun y => ok y.1 ∧ ok' y.2) := fun H enc w n cs hl hx => by
  obtain ⟨x, h1⟩ := hx f (by simp)
  obtain ⟨y, h2, h3⟩ := h H enc w n _ x h1
  obtain ⟨z, h4, h5⟩ := r H enc w n cs hl fun g hg => hx g (by simp [hg])
  refine ⟨(y, z), ⟨h2, h4⟩, ?_⟩
  have : cs.drop o = (cs.drop f.offset).take (P.cellsOf f.type) ++ cs.drop (o + sz) := by
    rw [hf, hz, ← List.drop_drop, List.take_append_drop]
  rw [this]
  exact h3.append h5

theorem rd_struct {P : Program} {t : TypeId} {fs : Array Field} {X : Type} {ec : X → List AV} {ok : X → Prop} {N : Nat} (ht : P.underlying t = some (.struct fs)) (hN : P.cellsOf t = N) (r : RdF P N 0 fs.toList ec ok) : Rd P t ec ok := fun H enc w fuel cs x hx => by
  subst hN
  obtain ⟨xs, n, _, _, hl, hlen, hf⟩ := DataW.trod_struct ht hx
  obtain ⟨y, h1, h2⟩ := r H enc w n cs hl fun f hfm => by
    obtain ⟨i, hi⟩ := List.getElem?_of_mem hfm
    have hi' : fs[i]? = some f := by simpa using hi
    rw [hf i f hi']
    have : i < xs.length := by
      rw [hlen]
      have := (List.getElem?_eq_some_iff.1 hi).1
      simpa using this
    exact ⟨xs[i], List.getElem?_eq_getElem this⟩
  exact ⟨y, h1, by simpa using h2⟩

/-- Arguments. -/
def RdA (P : Program) (ts : List TypeId) {X : Type} (ec : X → List AV) (ok : X → Prop) : Prop :=
  ∀ (H : Type) (enc : TypeId × Value → H) (w : World) (base : Nat) (vs : List Value) (ds : List (DataW H)) (ps : List MemPlace),
    (∀ (j : Nat) t v, ts[j]? = some t → vs[j]? = some v → Value.okWide P w .any base t v) →
    DataW.TrodAll enc P w 0 (fun _ => true) true ts vs ds ps → ∃ y, ok y ∧ VRL (EnvW w) (ec y) vs

theorem rdA_nil {P : Program} : RdA P [] (fun _ : Unit => []) (fun _ => True) := fun H enc w base vs ds ps _ h => by
  obtain ⟨rfl, _, _⟩ := trodAll_nil h
  exact ⟨(), trivial, by simp [VRL]⟩

theorem rdA_agg {P : Program} {t : TypeId} {ts : List TypeId} {X Y : Type} {ec : X → List AV} {ok : X → Prop} {ec' : Y → List AV} {ok' : Y → Prop} (hg : isAggT P t = some true) (h : Rd P t ec ok) (r : RdA P ts ec' ok') :
    RdA P (t :: ts) (fun y : X × Y => .agg (ec y.1) :: ec' y.2) (fun y => ok y.1 ∧ ok' y.2) := fun H enc w base vs ds ps hok hx => by
  obtain ⟨v, vs', d, ds', p, q, rfl, rfl, rfl, h1, h2⟩ := trodAll_cons hx
  obtain ⟨fuel, h1⟩ := h1
  obtain ⟨y, h3, h4⟩ := h H enc w fuel _ _ h1
  obtain ⟨z, h5, h6⟩ := r H enc w base vs' ds' q (fun j t v a b => hok (j + 1) t v a b) h2
  refine ⟨(y, z), ⟨h3, h5⟩, ?_⟩
  have hv := hok 0 t v rfl rfl
  unfold isAggT at hg
  have : ∃ cs, v = .agg cs := by
    unfold Value.okWide at hv
    split at hg
    all_goals rename_i hu; rw [hu] at hv
    · obtain ⟨cs, h, _⟩ := hv; exact ⟨cs, h⟩
    · obtain ⟨cs, h, _⟩ := hv; exact ⟨cs, h⟩
    · cases hg
    · cases hg
  obtain ⟨cs, rfl⟩ := this
  simp only [VRL]
  refine ⟨_, vs', rfl, ?_, h6⟩
  simp only [VR]
  exact ⟨cs.toList, rfl, by simpa [Value.cells] using h4⟩

theorem okWide_one {P : Program} {w : World} {base : Nat} {t : TypeId} {v : Value} (hg : isAggT P t = some false) (h : Value.okWide P w .any base t v) : v.cells.toList = [v] := by
  unfold isAggT at hg
  unfold Value.okWide at h
  split at hg
  · cases hg
  · cases hg
  · rename_i d h1 h2 hu
    rw [hu] at h
    split at h
    · rename_i e; cases e; exact absurd rfl (h1 _)
    · rename_i e; cases e; exact absurd rfl (h2 _ _)
    · cases v <;> try rfl
      rename_i cs
      unfold Cell.okWide at h
      split at h <;> try (rename_i e1 e2; cases e2)
      unfold Cell.ok at h
      split at h <;> first | (rename_i e1 e2; cases e2; done) | cases h
  · cases hg

theorem rdA_val {P : Program} {t : TypeId} {ts : List TypeId} {X Y : Type} {a : X → AV} {ok : X → Prop} {ec' : Y → List AV} {ok' : Y → Prop} (hg : isAggT P t = some false) (h : Rd P t (fun y => [a y]) ok) (r : RdA P ts ec' ok') :
    RdA P (t :: ts) (fun y : X × Y => a y.1 :: ec' y.2) (fun y => ok y.1 ∧ ok' y.2) := fun H enc w base vs ds ps hok hx => by
  obtain ⟨v, vs', d, ds', p, q, rfl, rfl, rfl, h1, h2⟩ := trodAll_cons hx
  obtain ⟨fuel, h1⟩ := h1
  obtain ⟨y, h3, h4⟩ := h H enc w fuel _ _ h1
  obtain ⟨z, h5, h6⟩ := r H enc w base vs' ds' q (fun j t v a b => hok (j + 1) t v a b) h2
  refine ⟨(y, z), ⟨h3, h5⟩, ?_⟩
  rw [okWide_one hg (hok 0 t v rfl rfl)] at h4
  simp only [VRL] at h4 ⊢
  obtain ⟨x, xs, e, h7, _⟩ := h4
  cases e
  exact ⟨v, vs', rfl, h7, h6⟩

/-- 'post_of_same', where memory that was there stays, and new blocks come. -/
theorem post_of_old {H : Type} {enc : TypeId × Value → H} {P : Program} {f : Func} {s : ChangeSpec} {apart fresh handsOn again : Bool} {W W' : World} {args : Array Value} {v : Value} {ds gs : List (DataW H)} {before pa pv : List MemPlace}
    (hW : DataW.Whole enc P f.params.toList s.vars apart W args.toList ds gs before)
    (hres : ∀ (b : Nat) (sp : Nat → Bool) (hd : Bool), DataW.TrodAll enc P W' b sp hd f.resultTypes.toList (v.resultList f.resultTypes.size) (s.fn H (ds ++ gs)).results [])
    (hargs : ∀ sp : Nat → Bool, (∀ p ∈ before, sp p.block = true) → DataW.TrodAll enc P W' 0 sp true f.params.toList args.toList (s.fn H (ds ++ gs)).args pa)
    (hvars : ∀ sp : Nat → Bool, (∀ p ∈ before, sp p.block = true) → DataW.TrodVars enc P W' sp s.vars (s.fn H (ds ++ gs)).vars pv)
    (hps : before = pa ++ pv) (hk : W.keptBut W' (· ∈ before)) (hfz : ∀ b o, b < W.heap.size → W'.frozen? ⟨b, o, none⟩ = W.frozen? ⟨b, o, none⟩)
    (hok : ∀ (j : Nat) (t : TypeId) (r : Value), f.resultTypes[j]? = some t → (v.resultList f.resultTypes.size)[j]? = some r → Value.okWide P W' .any 0 t r) :
    s.post enc P f apart fresh handsOn again W args v W' := by
  have hlt := hW.lt
  have hold : ∀ p ∈ before, (fun b => decide (b < W.heap.size)) p.block = true := fun p hp => by simpa using hlt p hp
  refine ⟨ds, gs, before, [], pa, pv, hW, hres _ _ _, hargs _ hold, hvars _ hold, World.keptBut_mono (fun p hp => ⟨hp, ?_⟩) hk, fun _ => ?_⟩
  · rw [hps, List.mem_append] at hp
    exact Or.inr hp
  · obtain ⟨_, _, _, _, _, hz, hn⟩ := hW
    refine ⟨hok, _, _, ([] ++ pa) ++ pv, ⟨[] ++ pa, pv, trodAll_append (hargs _ (fun _ _ => rfl)) (hres _ _ _), hvars _ (fun _ _ => rfl), rfl, ?_, ?_⟩, ?_⟩
    · intro b off hp
      have hp' : MemPlace.cell b off ∈ before := by rw [hps]; simpa using hp
      rw [hfz b off (hlt _ hp')]
      exact hz b off hp'
    · intro ha
      have := hn ha
      rw [hps] at this
      simpa using this
    · intro p hp _
      rw [hps]
      simpa using hp

/-- Every slice type's elements have cells. -/
def slicesFull (P : Program) : Bool := (List.range P.types.size).all fun t => match P.underlying t with | some (.slice e) => decide (0 < P.cellsOf e) | _ => true

theorem trodAll_stays {H : Type} {enc : TypeId × Value → H} {P : Program} {W W' : World} (hlaid : laidOutB P = true) (hrow : mapsRowed P = true) (hfull : slicesFull P = true) :
    ∀ {ts : List TypeId} {vs : List Value} {ds : List (DataW H)} {ps : List MemPlace}, (∀ t ∈ ts, t < P.types.size) → DataW.TrodAll enc P W 0 (fun _ => true) true ts vs ds ps → (∀ p ∈ ps, W.sameAt W' p) →
    ∀ sp : Nat → Bool, (∀ p ∈ ps, sp p.block = true) → DataW.TrodAll enc P W' 0 sp true ts vs ds ps
  | [], _, _, _, _, h, _, _, _ => by
    obtain ⟨rfl, rfl, rfl⟩ := trodAll_nil h
    exact trodAll_mk0
  | t :: ts, _, _, _, hts, h, hs, sp, hsp => by
    obtain ⟨v, vs', d, ds', p, q, rfl, rfl, rfl, h1, h2⟩ := trodAll_cons h
    obtain ⟨fuel, h1⟩ := h1
    refine trodAll_cons_mk ⟨fuel, DataW.trod_stays (kids_rows hlaid hrow) (fun {t e} ht hu => ?_) (fun e => by cases e) (hts t (by simp)) h1 (fun r hr => hs r (List.mem_append_left _ hr)) (fun r hr => hsp r (List.mem_append_left _ hr))⟩
      (trodAll_stays hlaid hrow hfull (fun u hu => hts u (by simp [hu])) h2 (fun r hr => hs r (List.mem_append_right _ hr)) sp (fun r hr => hsp r (List.mem_append_right _ hr)))
    have := List.all_eq_true.1 hfull t (List.mem_range.2 ht)
    rw [hu] at this
    simpa using this

theorem trodAllLen {H : Type} {enc : TypeId × Value → H} {P : Program} {w : World} {base : Nat} {spare : Nat → Bool} {held : Bool} : ∀ {ts : List TypeId} {vs : List Value} {ds : List (DataW H)} {ps : List MemPlace}, DataW.TrodAll enc P w base spare held ts vs ds ps → ds.length = ts.length
  | [], _, _, _, h => by obtain ⟨_, rfl, _⟩ := trodAll_nil h; rfl
  | t :: ts, _, _, _, h => by
    obtain ⟨v, vs', d, ds', p, q, rfl, rfl, rfl, _, h2⟩ := trodAll_cons h
    simp [trodAllLen h2]

/-- A law: what its walk gives, as the form asks it. -/
theorem law_contract {P : Program} {f : FuncId} {fn : Func} {s : ChangeSpec} {apart fresh handsOn again : Bool} {tb : TypeId} (hfn : P.funcs[f]? = some fn) (hbody : fn.body.isSome = true) (hname : (fn.name == "runtime.NumGoroutine") = false)
    (hlaid : laidOutB P = true) (hrow : mapsRowed P = true) (hfull : slicesFull P = true) (hts : fn.params.toList.all (fun t => decide (t < P.types.size)) = true) (hres : fn.resultTypes = #[tb]) (hb : P.underlying tb = some .bool) (hvars : s.vars = [])
    (hs : ∀ (H : Type) (ds : List (DataW H)), ds.length = fn.params.toList.length → (s.fn H ds).results = [.lit (.bool true)] ∧ (s.fn H ds).args = ds ∧ (s.fn H ds).vars = [])
    {X : Type} {ec : X → List AV} {ok : X → Prop} (hA : RdA P fn.params.toList ec ok) (walk : ∀ y, ok y → ACall P f (ec y) [] fun av _ => av = .bool true)
    {H : Type} (enc : TypeId × Value → H) (W : World) (base : Nat) (args : Array Value) (ds gs : List (DataW H)) (before : List MemPlace)
    (hval : ∀ (j : Nat) t v, fn.params[j]? = some t → args[j]? = some v → Value.okWide P W .any base t v)
    (hW : DataW.Whole enc P fn.params.toList s.vars apart W args.toList ds gs before) (hglob : GlobOk (EnvW W).mem ∧ GszOk W) :
    Calls P f args W fun e W' => ∃ v, e = .returned v ∧ s.post enc P fn apart fresh handsOn again W args v W' := by
  have hW' := hW
  have hlt := hW.lt
  obtain ⟨p, q, hA0, hV, rfl, hfz, hnd⟩ := hW
  rw [hvars] at hV
  obtain ⟨rfl, rfl⟩ := trodVars_none hV
  obtain ⟨y, hy, hvr⟩ := hA H enc W base args.toList ds p (fun j t v a b => hval j t v (by simpa using a) (by simpa using b)) hA0
  have hlen := trodAllLen hA0
  obtain ⟨e1, e2, e3⟩ := hs H ds hlen
  have hrun : (callFunc f args).run P W = .ok (.enter f args) W := by
    simp only [callFunc, Sem.run_bind, run_program, Result.andThen_ok, hfn, hname]
    cases hb : fn.body with
    | none => simp [hb] at hbody
    | some c => simp
  rcases walk y hy W (fun _ => False) (EnvW W) W args.toList (Rel.start W hglob) hvr with ⟨_, h⟩ | ⟨_, _, _, _, _, h, _⟩
  · refine h.mono fun e W' ⟨E', v, av, L', he, _, hav, hv, hR⟩ => ?_
    subst hav
    simp only [VR] at hv
    subst hv
    refine ⟨_, he, ?_⟩
    have hheap : ∀ b, b < W.heap.size → W'.heap[b]? = W.heap[b]? := fun b hb => hR.frame b hb (fun h => h)
    have hps : ∀ r ∈ p, W.sameAt W' r := fun r hr => by
      have := hlt r (by simpa using hr)
      cases r <;> simp only [World.sameAt, MemPlace.block] at this ⊢
      · simp only [World.cell?]; rw [hheap _ this]
      · exact hheap _ this
    refine post_of_old (pa := p) (pv := []) hW' (fun b sp hd => ?_) (fun sp hsp => ?_) (fun _ _ => ?_) rfl ⟨hR.os, hR.output, fun i hi => ?_⟩ (fun b o hb => ?_) (fun j t r h1 h2 => ?_)
    · rw [List.append_nil, e1, hres]
      exact trodAll_cons_mk (shut_bool hb _) trodAll_mk0
    · rw [List.append_nil, e2]
      exact trodAll_stays hlaid hrow hfull (fun t ht => by simpa using List.all_eq_true.1 hts t ht) hA0 hps sp (fun r hr => hsp r (by simpa using hr))
    · rw [hvars, List.append_nil, e3]
      rfl
    · rw [hheap i hi]
      rcases hc : W.heap[i]? with _ | o
      · trivial
      · cases o <;> simp
    · simp only [World.frozen?]; rw [hheap b hb]
    · exact ok_one hres rfl (okWide_bool_mk hb _) j t r h1 h2
  · rw [show (⟨args.toList⟩ : Array Value) = args from rfl, hrun] at h
    cases h
end Go.Proofs.YtpednpndahgleaaGreatDoor.Av
