/- The abstract values of the walks: a world and what is known of it. Plain Lean over the model; no program in sight. -/
import Derived.Test.YtpednpndahgleaaGreatDoorAvGt
set_option linter.unusedSimpArgs false
set_option linter.unusedVariables false
namespace Go.Proofs.YtpednpndahgleaaGreatDoor.Av
open Go

/-- What the package-level variables that are listed hold. -/
def GlobOk (m : Nat → Nat → Option Value) : Prop := ∀ p ∈ globTab, VRC ⟨m, fun _ => none, fun _ => none⟩ p.2 p.1 0
theorem GlobOk.mono {m m' : Nat → Nat → Option Value} (h : GlobOk m) (hm : ∀ b o v, m b o = some v → m' b o = some v) : GlobOk m' := fun p hp =>
  VRC.mono ⟨hm, (fun _ _ x => by cases x), (fun _ _ x => by cases x)⟩ _ _ _ (h p hp)
theorem GlobOk.env {E : Env} (h : GlobOk E.mem) {p : Nat × List AV} (hp : p ∈ globTab) : VRC E p.2 p.1 0 :=
  VRC.mono (E := ⟨E.mem, fun _ => none, fun _ => none⟩) (E' := E) ⟨fun _ _ _ x => x, (fun _ _ x => by cases x), (fun _ _ x => by cases x)⟩ _ _ _ (h p hp)
/-- They are as long as they are listed. -/
def GszOk (w : World) : Prop := ∀ p ∈ globTab, p.2 ≠ [] → ∃ cs ty fr, w.heap[p.1]? = some (.cells cs ty fr) ∧ cs.size = p.2.length
theorem GszOk.push {w : World} (h : GszOk w) (o : Obj) : GszOk { w with heap := w.heap.push o } := fun p hp hne => by
  obtain ⟨cs, ty, fr, h1, h2⟩ := h p hp hne
  refine ⟨cs, ty, fr, ?_, h2⟩
  have hlt := (Array.getElem?_eq_some_iff.1 h1).1
  show (w.heap.push o)[p.1]? = _
  rw [Array.getElem?_push_lt hlt, ← Array.getElem?_eq_getElem hlt]; exact h1
theorem GszOk.keep {w w' : World} {m : Nat → Nat → Option Value} (h : GszOk w) (hg : GlobOk m) (hs : ∀ b, (∃ v, m b 0 = some v) → w'.heap[b]? = w.heap[b]?) : GszOk w' := fun p hp hne => by
  obtain ⟨cs, ty, fr, h1, h2⟩ := h p hp hne
  refine ⟨cs, ty, fr, ?_, h2⟩
  rw [hs p.1]; exact h1
  have := hg p hp
  obtain ⟨g, l⟩ := p
  cases l with
  | nil => exact absurd rfl hne
  | cons a l =>
    simp only [VRC] at this
    obtain ⟨⟨x, hx, _⟩, _⟩ := this
    exact ⟨x, hx⟩
theorem GszOk.mod {w w' : World} (h : GszOk w) (hs : ∀ (b : Nat) (cs : Array Value) (ty : TypeId) (fr : Nat × Nat), w.heap[b]? = some (Obj.cells cs ty fr) → ∃ (cs' : Array Value) (ty' : TypeId) (fr' : Nat × Nat), w'.heap[b]? = some (Obj.cells cs' ty' fr') ∧ cs'.size = cs.size) : GszOk w' := fun p hp hne => by
  obtain ⟨cs, ty, fr, h1, h2⟩ := h p hp hne
  obtain ⟨cs', ty', fr', h3, h4⟩ := hs _ _ _ _ h1
  exact ⟨cs', ty', fr', h3, by omega⟩
theorem globOf_mem {g : Nat} {l : List AV} (h : globOf g = some l) : (g, l) ∈ globTab := by
  simp only [globOf, Option.map_eq_some_iff] at h
  obtain ⟨p, h1, rfl⟩ := h
  have h2 := List.find?_some h1
  have h3 := List.mem_of_find?_eq_some h1
  simp only [beq_iff_eq] at h2
  subst h2; exact h3

/-- Blocks that the call owns. -/
inductive Blk where
  | dead
  | cells (l : List AV)
  | map (es : List (AV × AV × Nat)) (ck : Nat)
  | miter (m : Option Nat) (since : Nat) (seen : List Nat) (last : Nat)
  | siter (s : List UInt8) (pos : Nat)
  | spare (n sz : Nat)
  deriving Inhabited

def Blk.live : Blk → Bool
  | .dead => false
  | .spare _ _ => false
  | _ => true

/-- A map's entries: key, value, when it was born. -/
def MapRel (E : Env) : List (AV × AV × Nat) → List MapEntry → Prop
  | [], es => es = []
  | (k, x, b) :: l, es => ∃ e r, es = e :: r ∧ VR E k e.key ∧ VR E x e.val ∧ e.born = b ∧ MapRel E l r

/-- Over which map a walk goes. -/
def MIt (E : Env) : Option Nat → Option Nat → Prop
  | none, r => r = none
  | some j, r => ∃ d, E.loc j = some d ∧ r = some d.blk

def BRel (E : Env) (w : World) (i : Nat) : Blk → Prop
  | .dead => True
  | .cells l => ∃ c cs ty fr, E.loc i = some c ∧ w.heap[c.blk]? = some (.cells cs ty fr) ∧ cs.size = c.size ∧ c.off + l.length ≤ c.size ∧
      (∀ j a, l[j]? = some a → ∃ v, cs[c.off + j]? = some v ∧ VR E a v) ∧ (∀ o, c.off ≤ o → o < c.size → ¬ (fr.1 ≤ o ∧ o < fr.2))
  | .map es ck => ∃ c rs, E.loc i = some c ∧ w.heap[c.blk]? = some (.map rs ck) ∧ MapRel E es rs.toList
  | .miter m since seen last => ∃ c r, E.loc i = some c ∧ w.heap[c.blk]? = some (.mapIter r since ⟨seen⟩ last) ∧ c.off = 0 ∧ MIt E m r
  | .siter s pos => ∃ c, E.loc i = some c ∧ w.heap[c.blk]? = some (.stringIter ⟨⟨s⟩⟩ pos) ∧ c.off = 0
  | .spare n sz => ∃ t, E.tok i = some t ∧ t.pos = n ∧ t.sz = sz ∧ ∀ k, t.loc = some k → ∃ cs ty fr, w.heap[k.blk]? = some (.cells cs ty fr) ∧ cs.size = k.size ∧ (∀ o, n * sz ≤ o → o < k.size → ¬ (fr.1 ≤ o ∧ o < fr.2))

/-- The world w is what the call's own blocks L and the memory that stays say; behind w0 nothing but blocks of S0 has turned. -/
structure Rel (w0 : World) (S0 : Nat → Prop) (E : Env) (L : List Blk) (w : World) : Prop where
  mem : ∀ b o v, E.mem b o = some v → w.cell? ⟨b, o, none⟩ = some v
  blk : ∀ i k, L[i]? = some k → BRel E w i k
  fresh : ∀ i, L.length ≤ i → E.loc i = none
  own : ∀ i k c, L[i]? = some k → k.live = true → E.loc i = some c → (∀ o, E.mem c.blk o = none) ∧ (S0 c.blk ∨ w0.heap.size ≤ c.blk)
  inj : ∀ i j k k' c c', L[i]? = some k → k.live = true → L[j]? = some k' → k'.live = true → E.loc i = some c → E.loc j = some c' → c.blk = c'.blk → i = j
  tkfresh : ∀ i, L.length ≤ i → E.tok i = none
  tkown : ∀ i n sz t k, L[i]? = some (.spare n sz) → E.tok i = some t → t.loc = some k → (∀ o, n * sz ≤ o → E.mem k.blk o = none) ∧ (S0 k.blk ∨ w0.heap.size ≤ k.blk)
  tkloc : ∀ i n sz t k j k' c, L[i]? = some (.spare n sz) → E.tok i = some t → t.loc = some k → L[j]? = some k' → k'.live = true → E.loc j = some c → c.blk ≠ k.blk
  tkinj : ∀ i n sz t k i' n' sz' t' k', L[i]? = some (.spare n sz) → E.tok i = some t → t.loc = some k → L[i']? = some (.spare n' sz') → E.tok i' = some t' → t'.loc = some k' → k.blk = k'.blk → i = i'
  frame : ∀ k, k < w0.heap.size → ¬ S0 k → w.heap[k]? = w0.heap[k]?
  size : w0.heap.size ≤ w.heap.size
  os : w.os = w0.os
  tape : w.tape = w0.tape
  output : w.output = w0.output
  glob : GlobOk E.mem
  gsz : GszOk w

theorem MapRel.mono {E E' : Env} (h : E.le E') : ∀ {l : List (AV × AV × Nat)} {es : List MapEntry}, MapRel E l es → MapRel E' l es
  | [], _, r => by simpa [MapRel] using r
  | (k, x, b) :: l, es, r => by
    simp only [MapRel] at r ⊢
    obtain ⟨e, t, h1, h2, h3, h4, h5⟩ := r
    exact ⟨e, t, h1, VR.mono h _ _ h2, VR.mono h _ _ h3, h4, MapRel.mono h h5⟩
theorem MIt.mono {E E' : Env} (h : E.le E') {m r : Option Nat} (hm : MIt E m r) : MIt E' m r := by
  cases m with
  | none => exact hm
  | some j => obtain ⟨d, h1, h2⟩ := hm; exact ⟨d, h.loc _ _ h1, h2⟩

theorem BRel.mono' {E E' : Env} (h : E.le E') {w : World} {i : Nat} : ∀ {k : Blk}, k.live = true → BRel E w i k → BRel E' w i k
  | .dead, q, _ => by simp [Blk.live] at q
  | .spare _ _, q, _ => by simp [Blk.live] at q
  | .cells l, _, r => by
    simp only [BRel] at r ⊢
    obtain ⟨c, cs, ty, fr, h1, h2, h3, h4, h5, h6⟩ := r
    exact ⟨c, cs, ty, fr, h.loc _ _ h1, h2, h3, h4, fun j a ha => let ⟨v, x, y⟩ := h5 j a ha; ⟨v, x, VR.mono h _ _ y⟩, h6⟩
  | .map es ck, _, r => by
    simp only [BRel] at r ⊢
    obtain ⟨c, rs, h1, h2, h3⟩ := r
    exact ⟨c, rs, h.loc _ _ h1, h2, MapRel.mono h h3⟩
  | .miter m since seen last, _, r => by
    simp only [BRel] at r ⊢
    obtain ⟨c, q, h1, h2, h3, h4⟩ := r
    exact ⟨c, q, h.loc _ _ h1, h2, h3, h4.mono h⟩
  | .siter s pos, _, r => by
    simp only [BRel] at r ⊢
    obtain ⟨c, h1, h2⟩ := r
    exact ⟨c, h.loc _ _ h1, h2⟩

theorem BRel.mono {E E' : Env} (h : E.le E') {w : World} {i : Nat} {k : Blk} (hk : k.live = true) (r : BRel E w i k) : BRel E' w i k := by
  cases k <;> simp only [Blk.live, Bool.false_eq_true] at hk
  all_goals exact BRel.mono' h (by rfl) r

/-- BRel looks at its own block alone. -/
theorem BRel.world {E : Env} {w w' : World} {i : Nat} {k : Blk} (h : ∀ c, E.loc i = some c → w'.heap[c.blk]? = w.heap[c.blk]?) (ht : ∀ t c, E.tok i = some t → t.loc = some c → w'.heap[c.blk]? = w.heap[c.blk]?) (r : BRel E w i k) : BRel E w' i k := by
  cases k <;> simp only [BRel] at r ⊢
  · obtain ⟨c, cs, ty, fr, h1, h2, h3⟩ := r
    exact ⟨c, cs, ty, fr, h1, by rw [h c h1]; exact h2, h3⟩
  · obtain ⟨c, rs, h1, h2, h3⟩ := r
    exact ⟨c, rs, h1, by rw [h c h1]; exact h2, h3⟩
  · obtain ⟨c, q, h1, h2, h3⟩ := r
    exact ⟨c, q, h1, by rw [h c h1]; exact h2, h3⟩
  · obtain ⟨c, h1, h2⟩ := r
    exact ⟨c, h1, by rw [h c h1]; exact h2⟩
  · obtain ⟨t, h1, h2, h3, h4⟩ := r
    exact ⟨t, h1, h2, h3, fun k hk => by rw [ht t k h1 hk]; exact h4 k hk⟩

theorem BRel.worldL {E : Env} {w w' : World} {i : Nat} {k : Blk} (hk : k.live = true) (h : ∀ c, E.loc i = some c → w'.heap[c.blk]? = w.heap[c.blk]?) (r : BRel E w i k) : BRel E w' i k := by
  cases k <;> simp only [Blk.live, Bool.false_eq_true] at hk <;> simp only [BRel] at r ⊢
  · obtain ⟨c, cs, ty, fr, h1, h2, h3⟩ := r
    exact ⟨c, cs, ty, fr, h1, by rw [h c h1]; exact h2, h3⟩
  · obtain ⟨c, rs, h1, h2, h3⟩ := r
    exact ⟨c, rs, h1, by rw [h c h1]; exact h2, h3⟩
  · obtain ⟨c, q, h1, h2, h3⟩ := r
    exact ⟨c, q, h1, by rw [h c h1]; exact h2, h3⟩
  · obtain ⟨c, h1, h2⟩ := r
    exact ⟨c, h1, by rw [h c h1]; exact h2⟩

/-- A block that isn't alive looks at its token alone. -/
theorem BRel.still {E E' : Env} {w w' : World} {i j : Nat} {k : Blk} (hk : k.live = false) (he : E'.tok j = E.tok i) (ht : ∀ t c n sz, k = .spare n sz → E.tok i = some t → t.loc = some c → w'.heap[c.blk]? = w.heap[c.blk]?) (r : BRel E w i k) : BRel E' w' j k := by
  cases k <;> simp only [Blk.live, Bool.true_eq_false] at hk <;> simp only [BRel] at r ⊢
  obtain ⟨t, h1, h2, h3, h4⟩ := r
  exact ⟨t, by rw [he]; exact h1, h2, h3, fun k hk => by rw [ht t k _ _ rfl h1 hk]; exact h4 k hk⟩

theorem BRel.loc {E : Env} {w : World} {i : Nat} {k : Blk} (r : BRel E w i k) (hk : k.live = true) : ∃ c o, E.loc i = some c ∧ w.heap[c.blk]? = some o := by
  cases k <;> simp only [BRel, Blk.live, Bool.false_eq_true] at r hk
  · obtain ⟨c, cs, ty, fr, h1, h2, _⟩ := r; exact ⟨c, _, h1, h2⟩
  · obtain ⟨c, rs, h1, h2, _⟩ := r; exact ⟨c, _, h1, h2⟩
  · obtain ⟨c, q, h1, h2, _⟩ := r; exact ⟨c, _, h1, h2⟩
  · obtain ⟨c, h1, h2, _⟩ := r; exact ⟨c, _, h1, h2⟩

/-- The temporaries that are told of: the last one of a number counts. -/
abbrev Tm := List (Nat × AV)
def look : Tm → Nat → Option AV
  | [], _ => none
  | (d, v) :: T, t => if d = t then some v else look T t

def TR (E : Env) (T : Tm) (a : Act) : Prop := ∀ t v, look T t = some v → VR E v (a.tmps.getD t undef)

theorem TR.mono {E E' : Env} (h : E.le E') {T : Tm} {a : Act} (r : TR E T a) : TR E' T a := fun t v hv => VR.mono h _ _ (r t v hv)

theorem TR.put {E : Env} {T : Tm} {a : Act} {d : Nat} {x : AV} {v : Value} (r : TR E T a) (hd : d < a.tmps.size) (hv : VR E x v) : TR E ((d, x) :: T) (a.put (some d) v) := by
  intro t y hy
  simp only [look] at hy
  simp only [Act.put]
  split at hy
  · rename_i e; subst e; simp at hy; subst hy
    simpa [Array.getD_eq_getD_getElem?, hd] using hv
  · rename_i e
    have := r t y hy
    rw [Array.getD_eq_getD_getElem?, Array.getElem?_setIfInBounds_ne (by omega)]
    rwa [Array.getD_eq_getD_getElem?] at this

theorem TR.weak {E : Env} {T T' : Tm} {a : Act} (r : TR E T a) (h : ∀ t v, look T' t = some v → look T t = some v) : TR E T' a := fun t v hv => r t v (h t v hv)

/-! ### A new block; a block turned -/

theorem Env.le_loc {E : Env} {n : Nat} (c : Loc) (h : E.loc n = none) : E.le { E with loc := fun i => if i = n then some c else E.loc i } :=
  ⟨fun _ _ _ x => x, fun i d x => by
    show (if i = n then some c else E.loc i) = some d
    split
    · rename_i e; subst e; rw [h] at x; cases x
    · exact x, fun _ t h => ⟨t, h, .inl rfl⟩⟩

theorem cell?_push {w : World} {o : Obj} {b i : Nat} {v : Value} (h : w.cell? ⟨b, i, none⟩ = some v) : World.cell? { w with heap := w.heap.push o } ⟨b, i, none⟩ = some v := by
  have hb : b < w.heap.size := by
    rcases Nat.lt_or_ge b w.heap.size with hb | hb
    · exact hb
    · simp [World.cell?, Array.getElem?_eq_none hb] at h
  simp only [World.cell?] at h ⊢
  rw [Array.getElem?_push_lt hb]
  rwa [Array.getElem?_eq_getElem hb] at h

theorem Rel.mem_lt {w0 : World} {S0 : Nat → Prop} {E : Env} {L : List Blk} {w : World} (h : Rel w0 S0 E L w) {b o : Nat} {v : Value} (hm : E.mem b o = some v) : b < w.heap.size := by
  have := h.mem _ _ _ hm
  rcases Nat.lt_or_ge b w.heap.size with hb | hb
  · exact hb
  · simp [World.cell?, Array.getElem?_eq_none hb] at this

theorem Rel.loc_lt {w0 : World} {S0 : Nat → Prop} {E : Env} {L : List Blk} {w : World} (h : Rel w0 S0 E L w) {i : Nat} {k : Blk} {c : Loc} (hk : L[i]? = some k) (hl : k.live = true) (hc : E.loc i = some c) : c.blk < w.heap.size := by
  obtain ⟨c', o, h1, h2⟩ := (h.blk i k hk).loc hl
  rw [hc] at h1; cases h1
  rcases Nat.lt_or_ge c.blk w.heap.size with hb | hb
  · exact hb
  · simp [Array.getElem?_eq_none hb] at h2

theorem Rel.tok_lt {w0 : World} {S0 : Nat → Prop} {E : Env} {L : List Blk} {w : World} (h : Rel w0 S0 E L w) {i n sz : Nat} {t : Tok} {c : Loc} (hk : L[i]? = some (.spare n sz)) (ht : E.tok i = some t) (hc : t.loc = some c) : c.blk < w.heap.size := by
  obtain ⟨t', h1, _, _, h2⟩ := h.blk i _ hk
  rw [ht] at h1; cases h1
  obtain ⟨cs, ty, fr, h3, _⟩ := h2 c hc
  rcases Nat.lt_or_ge c.blk w.heap.size with hb | hb
  · exact hb
  · simp [Array.getElem?_eq_none hb] at h3
theorem spare_app {L : List Blk} {k : Blk} (hk : k.live = true) {i n sz : Nat} (h : (L ++ [k])[i]? = some (.spare n sz)) : L[i]? = some (.spare n sz) := by
  rw [List.getElem?_append] at h
  split at h
  · exact h
  · rcases Nat.lt_or_ge (i - L.length) 1 with h1 | h1
    · have : i - L.length = 0 := by omega
      rw [this] at h; simp at h; subst h; simp [Blk.live] at hk
    · rw [List.getElem?_eq_none (by simpa using h1)] at h; cases h
theorem spare_set {L : List Blk} {i : Nat} {k : Blk} (hk : ∀ n sz, k ≠ .spare n sz) {j n sz : Nat} (h : (L.set i k)[j]? = some (.spare n sz)) : L[j]? = some (.spare n sz) := by
  rw [List.getElem?_set] at h
  split at h
  · split at h
    · exact absurd (Option.some.inj h) (hk n sz)
    · cases h
  · exact h
theorem live_nsp {k : Blk} (hk : k.live = true) : ∀ n sz, k ≠ .spare n sz := fun n sz e => by subst e; simp [Blk.live] at hk

/-- A new block of the call's own. -/
theorem Rel.push {w0 : World} {S0 : Nat → Prop} {E : Env} {L : List Blk} {w : World} (h : Rel w0 S0 E L w) (o : Obj) (k : Blk) (c : Loc) (hc : c.blk = w.heap.size) (hlv : k.live = true)
    (hb : BRel { E with loc := fun i => if i = L.length then some c else E.loc i } { w with heap := w.heap.push o } L.length k) :
    E.le { E with loc := fun i => if i = L.length then some c else E.loc i } ∧
    Rel w0 S0 { E with loc := fun i => if i = L.length then some c else E.loc i } (L ++ [k]) { w with heap := w.heap.push o } := by
  have hn : E.loc L.length = none := h.fresh _ (Nat.le_refl _)
  have hle := Env.le_loc c hn
  have hold : ∀ (i : Nat) (k' : Blk), L[i]? = some k' → i ≠ L.length := fun i k' e => by
    have := (List.getElem?_eq_some_iff.1 e).1; omega
  have htk : ∀ i n sz t d, (L ++ [k])[i]? = some (.spare n sz) → E.tok i = some t → t.loc = some d → L[i]? = some (.spare n sz) ∧ d.blk < w.heap.size := fun i n sz t d hi ht hd => ⟨spare_app hlv hi, h.tok_lt (spare_app hlv hi) ht hd⟩
  refine ⟨hle, ⟨fun b o' v hv => cell?_push (h.mem b o' v hv), ?_, ?_, ?_, ?_, fun i hi => h.tkfresh i (by simp at hi; omega), fun i n sz t d hi ht hd => h.tkown i n sz t d (spare_app hlv hi) ht hd, ?_,
    fun i n sz t d i' n' sz' t' d' hi ht hd hi' ht' hd' e => h.tkinj i n sz t d i' n' sz' t' d' (spare_app hlv hi) ht hd (spare_app hlv hi') ht' hd' e, ?_, ?_, h.os, h.tape, h.output, h.glob, h.gsz.push o⟩⟩
  · intro i k' hk
    rw [List.getElem?_append] at hk
    split at hk
    · have h1 := h.blk i k' hk
      rcases hl : k'.live with _ | _
      · exact BRel.still (E := E) hl rfl (fun t d n sz e ht hd => Array.getElem?_push_lt (h.tok_lt (e ▸ hk) ht hd) |>.trans (Array.getElem?_eq_getElem _).symm) h1
      refine BRel.worldL hl (fun d hd => ?_) (BRel.mono hle hl h1)
      have hd' : E.loc i = some d := by
        have : (if i = L.length then some c else E.loc i) = some d := hd
        rwa [if_neg (hold i k' hk)] at this
      exact Array.getElem?_push_lt (h.loc_lt hk hl hd') |>.trans (Array.getElem?_eq_getElem _).symm
    · rename_i hi
      rcases Nat.lt_or_ge (i - L.length) 1 with h1 | h1
      · have : i = L.length := by omega
        subst this; simp at hk; subst hk; exact hb
      · rw [List.getElem?_eq_none (by simpa using h1)] at hk; cases hk
  · intro i hi
    simp at hi
    show (if i = L.length then some c else E.loc i) = none
    rw [if_neg (by omega)]; exact h.fresh i (by omega)
  · intro i k' d hk hl hd
    have hd : (if i = L.length then some c else E.loc i) = some d := hd
    split at hd
    · cases hd
      refine ⟨fun o' => ?_, .inr (by have := h.size; omega)⟩
      rcases hm : E.mem c.blk o' with _ | v
      · rfl
      · have := h.mem_lt hm; omega
    · rename_i hi
      rw [List.getElem?_append] at hk
      split at hk
      · exact h.own i k' d hk hl hd
      · rename_i hi'
        rcases Nat.lt_or_ge (i - L.length) 1 with h1 | h1
        · omega
        · rw [List.getElem?_eq_none (by simpa using h1)] at hk; cases hk
  · intro i j k1 k2 c1 c2 hi hl hj hl' hc1 hc2 he
    have hc1 : (if i = L.length then some c else E.loc i) = some c1 := hc1
    have hc2 : (if j = L.length then some c else E.loc j) = some c2 := hc2
    have old : ∀ (i : Nat) (k' : Blk), (L ++ [k])[i]? = some k' → i ≠ L.length → L[i]? = some k' := fun i k' hk hne => by
      rw [List.getElem?_append] at hk
      split at hk
      · exact hk
      · rw [List.getElem?_eq_none (by simp; omega)] at hk; cases hk
    by_cases ei : i = L.length <;> by_cases ej : j = L.length
    · omega
    · rw [if_pos ei] at hc1; rw [if_neg ej] at hc2; cases hc1
      have := h.loc_lt (old j k2 hj ej) hl' hc2; omega
    · rw [if_neg ei] at hc1; rw [if_pos ej] at hc2; cases hc2
      have := h.loc_lt (old i k1 hi ei) hl hc1; omega
    · rw [if_neg ei] at hc1; rw [if_neg ej] at hc2
      exact h.inj i j k1 k2 c1 c2 (old i k1 hi ei) hl (old j k2 hj ej) hl' hc1 hc2 he
  · intro i n sz t d j k' c' hi ht hd hj hl hc'
    have hc' : (if j = L.length then some c else E.loc j) = some c' := hc'
    obtain ⟨hi', hlt⟩ := htk i n sz t d hi ht hd
    split at hc'
    · cases hc'; omega
    · rename_i hne
      rw [List.getElem?_append] at hj
      split at hj
      · exact h.tkloc i n sz t d j k' c' hi' ht hd hj hl hc'
      · rw [List.getElem?_eq_none (by simp; omega)] at hj; cases hj
  · intro k' hk' hs
    have := h.frame k' hk' hs
    rw [← this]
    exact Array.getElem?_push_lt (Nat.lt_of_lt_of_le hk' h.size) |>.trans (Array.getElem?_eq_getElem _).symm
  · simp; have := h.size; omega

/-- An owned block is turned: the world differs there alone. -/
theorem Rel.turn {w0 : World} {S0 : Nat → Prop} {E : Env} {L : List Blk} {w w' : World} {i : Nat} {k k' : Blk} {c : Loc} (h : Rel w0 S0 E L w) (hk : L[i]? = some k) (hl : k.live = true)
    (hc : E.loc i = some c) (hs : w'.heap.size = w.heap.size) (ho : ∀ b, b ≠ c.blk → w'.heap[b]? = w.heap[b]?) (e1 : w'.os = w.os) (e2 : w'.tape = w.tape) (e3 : w'.output = w.output)
    (hb : BRel E w' i k') (hns : ∀ n sz, k' ≠ .spare n sz) : Rel w0 S0 E (L.set i k') w' := by
  have hi : i < L.length := (List.getElem?_eq_some_iff.1 hk).1
  have hown := h.own i k c hk hl hc
  refine ⟨fun b o v hv => ?_, ?_, fun j hj => h.fresh j (by simpa using hj), ?_, ?_, fun j hj => h.tkfresh j (by simpa using hj), fun j n sz t d hj => h.tkown j n sz t d (spare_set hns hj), fun j n sz t d j2 k2 d2 hj ht hd hj2 hl2 hd2 => ?_,
    fun j n sz t d j' n' sz' t' d' hj ht hd hj' => h.tkinj j n sz t d j' n' sz' t' d' (spare_set hns hj) ht hd (spare_set hns hj'), ?_, by rw [hs]; exact h.size, e1.trans h.os, e2.trans h.tape, e3.trans h.output, h.glob, h.gsz.keep h.glob (fun b ⟨v, hv⟩ => ho b fun e => by subst e; rw [hown.1 0] at hv; cases hv)⟩
  · have hne : b ≠ c.blk := fun e => by subst e; rw [hown.1 o] at hv; cases hv
    have := h.mem b o v hv
    simp only [World.cell?] at this ⊢
    rwa [ho b hne]
  · intro j k2 hj
    rw [List.getElem?_set] at hj
    split at hj
    · rename_i e; subst e; first | (cases hj; exact hb) | (simp [hi] at hj; subst hj; exact hb)
    · rename_i hne
      rcases hl2 : k2.live with _ | _
      · exact BRel.still hl2 rfl (fun t d n sz e ht hd => ho d.blk fun e' => h.tkloc j n sz t d i k c (e ▸ hj) ht hd hk hl hc e'.symm) (h.blk j k2 hj)
      exact BRel.worldL hl2 (fun d hd => ho d.blk fun e => hne (h.inj i j k k2 c d hk hl hj hl2 hc hd e.symm)) (h.blk j k2 hj)
  · intro j k2 d hj hl2 hd
    rw [List.getElem?_set] at hj
    split at hj
    · rename_i e; subst e; rw [hc] at hd; cases hd; exact hown
    · exact h.own j k2 d hj hl2 hd
  · intro j1 j2 k1 k2 d1 d2 h1 l1 h2 l2 hd1 hd2 he
    have fix : ∀ (j : Nat) (k2 : Blk), (L.set i k')[j]? = some k2 → k2.live = true → ∃ k3 : Blk, L[j]? = some k3 ∧ k3.live = true := fun j k2 hj l => by
      rw [List.getElem?_set] at hj
      split at hj
      · rename_i e; subst e; exact ⟨k, hk, hl⟩
      · exact ⟨k2, hj, l⟩
    obtain ⟨k3, a1, b1⟩ := fix j1 k1 h1 l1
    obtain ⟨k4, a2, b2⟩ := fix j2 k2 h2 l2
    exact h.inj j1 j2 k3 k4 d1 d2 a1 b1 a2 b2 hd1 hd2 he
  · rw [List.getElem?_set] at hj2
    split at hj2
    · rename_i e; subst e; exact h.tkloc j n sz t d i k d2 (spare_set hns hj) ht hd hk hl hd2
    · exact h.tkloc j n sz t d j2 k2 d2 (spare_set hns hj) ht hd hj2 hl2 hd2
  · intro b hb' hs'
    rw [ho b]
    · exact h.frame b hb' hs'
    · intro e; subst e
      rcases hown.2 with h1 | h1
      · exact hs' h1
      · omega

/-- A block that nobody owns any more gets a new number. -/
theorem Rel.add {w0 : World} {S0 : Nat → Prop} {E : Env} {L : List Blk} {w : World} (h : Rel w0 S0 E L w) (k : Blk) (c : Loc) (hm : ∀ o, E.mem c.blk o = none) (hS : S0 c.blk ∨ w0.heap.size ≤ c.blk)
    (hne : ∀ (j : Nat) (k' : Blk) (d : Loc), L[j]? = some k' → k'.live = true → E.loc j = some d → d.blk ≠ c.blk) (hlv : k.live = true)
    (hnt : ∀ i n sz t d, L[i]? = some (.spare n sz) → E.tok i = some t → t.loc = some d → c.blk ≠ d.blk)
    (hb : BRel { E with loc := fun i => if i = L.length then some c else E.loc i } w L.length k) :
    E.le { E with loc := fun i => if i = L.length then some c else E.loc i } ∧ Rel w0 S0 { E with loc := fun i => if i = L.length then some c else E.loc i } (L ++ [k]) w := by
  have hn : E.loc L.length = none := h.fresh _ (Nat.le_refl _)
  have hle := Env.le_loc c hn
  have old : ∀ (i : Nat) (k' : Blk), (L ++ [k])[i]? = some k' → i ≠ L.length → L[i]? = some k' := fun i k' hk hne => by
    rw [List.getElem?_append] at hk
    split at hk
    · exact hk
    · rw [List.getElem?_eq_none (by simp; omega)] at hk; cases hk
  refine ⟨hle, ⟨h.mem, fun i k' hk => ?_, fun i hi => ?_, fun i k' d hk hl hd => ?_, fun i j k1 k2 c1 c2 hi hl hj hl' hc1 hc2 he => ?_, fun i hi => h.tkfresh i (by simp at hi; omega), fun i n sz t d hi => h.tkown i n sz t d (spare_app hlv hi), fun i n sz t d j k' c' hi ht hd hj hl hc' => ?_,
    fun i n sz t d i' n' sz' t' d' hi ht hd hi' => h.tkinj i n sz t d i' n' sz' t' d' (spare_app hlv hi) ht hd (spare_app hlv hi'), h.frame, h.size, h.os, h.tape, h.output, h.glob, h.gsz⟩⟩
  · by_cases e : i = L.length
    · subst e
      simp at hk; subst hk; exact hb
    · rcases hl : k'.live with _ | _
      · exact BRel.still (E := E) hl rfl (fun _ _ _ _ _ _ _ => rfl) (h.blk i k' (old i k' hk e))
      · exact BRel.mono hle hl (h.blk i k' (old i k' hk e))
  · simp at hi
    show (if i = L.length then some c else E.loc i) = none
    rw [if_neg (by omega)]; exact h.fresh i (by omega)
  · have hd : (if i = L.length then some c else E.loc i) = some d := hd
    by_cases e : i = L.length
    · rw [if_pos e] at hd; cases hd; exact ⟨hm, hS⟩
    · rw [if_neg e] at hd; exact h.own i k' d (old i k' hk e) hl hd
  · have hc1 : (if i = L.length then some c else E.loc i) = some c1 := hc1
    have hc2 : (if j = L.length then some c else E.loc j) = some c2 := hc2
    by_cases ei : i = L.length <;> by_cases ej : j = L.length
    · omega
    · rw [if_pos ei] at hc1; rw [if_neg ej] at hc2; cases hc1
      exact absurd he.symm (hne j k2 c2 (old j k2 hj ej) hl' hc2)
    · rw [if_neg ei] at hc1; rw [if_pos ej] at hc2; cases hc2
      exact absurd he (hne i k1 c1 (old i k1 hi ei) hl hc1)
    · rw [if_neg ei] at hc1; rw [if_neg ej] at hc2
      exact h.inj i j k1 k2 c1 c2 (old i k1 hi ei) hl (old j k2 hj ej) hl' hc1 hc2 he
  · have hc' : (if j = L.length then some c else E.loc j) = some c' := hc'
    by_cases e : j = L.length
    · rw [if_pos e] at hc'; cases hc'
      exact hnt i n sz t d (spare_app hlv hi) ht hd
    · rw [if_neg e] at hc'
      exact h.tkloc i n sz t d j k' c' (spare_app hlv hi) ht hd (old j k' hj e) hl hc'

/-- A block may be forgotten. -/
theorem Rel.kill {w0 : World} {S0 : Nat → Prop} {E : Env} {L L' : List Blk} {w : World} (h : Rel w0 S0 E L w) (hlen : L'.length = L.length)
    (hsub : ∀ (i : Nat) (k : Blk), L'[i]? = some k → k = .dead ∨ L[i]? = some k) : Rel w0 S0 E L' w := by
  have fix : ∀ (i : Nat) (k : Blk), L'[i]? = some k → k.live = true → L[i]? = some k := fun i k hk hl => by
    rcases hsub i k hk with e | e
    · subst e; simp [Blk.live] at hl
    · exact e
  have fixs : ∀ (i n sz : Nat), L'[i]? = some (.spare n sz) → L[i]? = some (.spare n sz) := fun i n sz hk => by
    rcases hsub i _ hk with e | e
    · cases e
    · exact e
  refine ⟨h.mem, fun i k hk => ?_, fun i hi => h.fresh i (by omega), fun i k c hk hl hc => h.own i k c (fix i k hk hl) hl hc, fun i j k k' c c' hi li hj lj => h.inj i j k k' c c' (fix i k hi li) li (fix j k' hj lj) lj,
    fun i hi => h.tkfresh i (by omega), fun i n sz t d hi => h.tkown i n sz t d (fixs i n sz hi), fun i n sz t d j k' c' hi ht hd hj hl => h.tkloc i n sz t d j k' c' (fixs i n sz hi) ht hd (fix j k' hj hl) hl,
    fun i n sz t d i' n' sz' t' d' hi ht hd hi' => h.tkinj i n sz t d i' n' sz' t' d' (fixs i n sz hi) ht hd (fixs i' n' sz' hi'), h.frame, h.size, h.os, h.tape, h.output, h.glob, h.gsz⟩
  rcases hsub i k hk with e | e
  · subst e; simp [BRel]
  · exact h.blk i k e


/-! ### Values that look at few of the call's own blocks; other numbers for these -/
mutual
def AV.refs (p : Nat → Bool) : AV → Bool
  | .ptr i _ => p i
  | .iptr l _ => AV.refsL p l
  | .sl l _ _ => AV.refsL p l
  | .lsl i _ _ _ _ => p i
  | .gsl l _ i _ => p i && AV.refsL p l
  | .lmap i => p i
  | .func _ caps => AV.refsL p caps
  | .iface _ a => AV.refs p a
  | .agg l => AV.refsL p l
  | .tup l => AV.refsL p l
  | _ => true
def AV.refsL (p : Nat → Bool) : List AV → Bool
  | [] => true
  | a :: l => AV.refs p a && AV.refsL p l
end

theorem AV.refsL_iff {p : Nat → Bool} : ∀ {l : List AV}, AV.refsL p l = true ↔ ∀ a ∈ l, AV.refs p a = true
  | [] => by simp [AV.refsL]
  | a :: l => by simp [AV.refsL, AV.refsL_iff (l := l)]

mutual
theorem VR.cut {E E' : Env} {p : Nat → Bool} (hm : ∀ b o v, E.mem b o = some v → E'.mem b o = some v) (hl : ∀ i c, p i = true → E.loc i = some c → E'.loc i = some c) (ht : ∀ i t, p i = true → E.tok i = some t → E'.tok i = some t) :
    ∀ (a : AV) (v : Value), a.refs p = true → VR E a v → VR E' a v
  | .undef, _, _, _ => by simp [VR]
  | .bool _, _, _, r => by simpa [VR] using r
  | .anyb, _, _, r => by simpa [VR] using r
  | .int _ _, _, _, r => by simpa [VR] using r
  | .str _, _, _, r => by simpa [VR] using r
  | .nilptr, _, _, r => by simpa [VR] using r
  | .gptr _ _, _, _, r => by simpa [VR] using r
  | .ptr i off, v, q, r => by
    simp only [VR, AV.refs] at q r ⊢
    obtain ⟨c, h1, h2⟩ := r
    exact ⟨c, hl _ _ q h1, h2⟩
  | .iptr l off, v, q, r => by
    simp only [VR, AV.refs] at q r ⊢
    obtain ⟨b, o, h1, h2⟩ := r
    exact ⟨b, o, h1, VRC.cut hm hl ht l b o q h2⟩
  | .nilsl, _, _, r => by simpa [VR] using r
  | .sl l n cap, v, q, r => by
    simp only [VR, AV.refs] at q r ⊢
    obtain ⟨p, c, h1, h2, h3, h4⟩ := r
    exact ⟨p, c, h1, h2, h3, h4.imp id fun ⟨b, o, h5, h6⟩ => ⟨b, o, h5, VRC.cut hm hl ht l b o q h6⟩⟩
  | .gsl l n i sz, v, q, r => by
    simp only [VR, AV.refs, Bool.and_eq_true] at q r ⊢
    obtain ⟨p, c, h1, h2, h3, h4, t, h5, h6⟩ := r
    exact ⟨p, c, h1, h2, h3, h4.imp id fun ⟨b, o, h7, h8⟩ => ⟨b, o, h7, VRC.cut hm hl ht l b o q.2 h8⟩, t, ht _ _ q.1 h5, h6⟩
  | .lsl i off len cap sz, v, q, r => by
    simp only [VR, AV.refs] at q r ⊢
    obtain ⟨c, rc, d, h1, h2⟩ := r
    exact ⟨c, rc, d, hl _ _ q h1, h2⟩
  | .nilmap, _, _, r => by simpa [VR] using r
  | .lmap i, v, q, r => by
    simp only [VR, AV.refs] at q r ⊢
    obtain ⟨c, h1, h2⟩ := r
    exact ⟨c, hl _ _ q h1, h2⟩
  | .func f caps, v, q, r => by
    simp only [VR, AV.refs] at q r ⊢
    obtain ⟨vs, h1, h2⟩ := r
    exact ⟨vs, h1, VRL.cut hm hl ht caps vs q h2⟩
  | .nilfunc, _, _, r => by simpa [VR] using r
  | .nilif, _, _, r => by simpa [VR] using r
  | .iface t a, v, q, r => by
    simp only [VR, AV.refs] at q r ⊢
    obtain ⟨x, h1, h2⟩ := r
    exact ⟨x, h1, VR.cut hm hl ht a x q h2⟩
  | .agg l, v, q, r => by
    simp only [VR, AV.refs] at q r ⊢
    obtain ⟨vs, h1, h2⟩ := r
    exact ⟨vs, h1, VRL.cut hm hl ht l vs q h2⟩
  | .tup l, v, q, r => by
    simp only [VR, AV.refs] at q r ⊢
    obtain ⟨vs, h1, h2⟩ := r
    exact ⟨vs, h1, VRL.cut hm hl ht l vs q h2⟩
theorem VRL.cut {E E' : Env} {p : Nat → Bool} (hm : ∀ b o v, E.mem b o = some v → E'.mem b o = some v) (hl : ∀ i c, p i = true → E.loc i = some c → E'.loc i = some c) (ht : ∀ i t, p i = true → E.tok i = some t → E'.tok i = some t) :
    ∀ (l : List AV) (vs : List Value), AV.refsL p l = true → VRL E l vs → VRL E' l vs
  | [], _, _, r => by simpa [VRL] using r
  | a :: l, vs, q, r => by
    simp only [VRL, AV.refsL, Bool.and_eq_true] at q r ⊢
    obtain ⟨x, xs, h1, h2, h3⟩ := r
    exact ⟨x, xs, h1, VR.cut hm hl ht a x q.1 h2, VRL.cut hm hl ht l xs q.2 h3⟩
theorem VRC.cut {E E' : Env} {p : Nat → Bool} (hm : ∀ b o v, E.mem b o = some v → E'.mem b o = some v) (hl : ∀ i c, p i = true → E.loc i = some c → E'.loc i = some c) (ht : ∀ i t, p i = true → E.tok i = some t → E'.tok i = some t) :
    ∀ (l : List AV) (b o : Nat), AV.refsL p l = true → VRC E l b o → VRC E' l b o
  | [], _, _, _, _ => by simp [VRC]
  | a :: l, b, o, q, r => by
    simp only [VRC, AV.refsL, Bool.and_eq_true] at q r ⊢
    obtain ⟨⟨x, h1, h2⟩, h3⟩ := r
    exact ⟨⟨x, hm _ _ _ h1, VR.cut hm hl ht a x q.1 h2⟩, VRC.cut hm hl ht l b (o + 1) q.2 h3⟩
end

mutual
def AV.ren (f : Nat → Nat) : AV → AV
  | .ptr i o => .ptr (f i) o
  | .iptr l o => .iptr (AV.renL f l) o
  | .sl l n c => .sl (AV.renL f l) n c
  | .lsl i o n c s => .lsl (f i) o n c s
  | .gsl l n i s => .gsl (AV.renL f l) n (f i) s
  | .lmap i => .lmap (f i)
  | .func g caps => .func g (AV.renL f caps)
  | .iface t a => .iface t (AV.ren f a)
  | .agg l => .agg (AV.renL f l)
  | .tup l => .tup (AV.renL f l)
  | a => a
def AV.renL (f : Nat → Nat) : List AV → List AV
  | [] => []
  | a :: l => AV.ren f a :: AV.renL f l
end

theorem AV.renL_eq {f : Nat → Nat} : ∀ {l : List AV}, AV.renL f l = l.map (AV.ren f)
  | [] => rfl
  | a :: l => by simp [AV.renL, AV.renL_eq (l := l)]

mutual
theorem VR.ren {E E' : Env} {p : Nat → Bool} {f : Nat → Nat} (hm : ∀ b o v, E.mem b o = some v → E'.mem b o = some v) (hl : ∀ i c, p i = true → E.loc i = some c → E'.loc (f i) = some c) (ht : ∀ i t, p i = true → E.tok i = some t → E'.tok (f i) = some t) :
    ∀ (a : AV) (v : Value), a.refs p = true → VR E a v → VR E' (a.ren f) v
  | .undef, _, _, _ => by simp [VR, AV.ren]
  | .bool _, _, _, r => by simpa [VR, AV.ren] using r
  | .anyb, _, _, r => by simpa [VR, AV.ren] using r
  | .int _ _, _, _, r => by simpa [VR, AV.ren] using r
  | .str _, _, _, r => by simpa [VR, AV.ren] using r
  | .nilptr, _, _, r => by simpa [VR, AV.ren] using r
  | .gptr _ _, _, _, r => by simpa [VR, AV.ren] using r
  | .ptr i off, v, q, r => by
    simp only [VR, AV.ren, AV.refs] at q r ⊢
    obtain ⟨c, h1, h2⟩ := r
    exact ⟨c, hl _ _ q h1, h2⟩
  | .iptr l off, v, q, r => by
    simp only [VR, AV.ren, AV.refs] at q r ⊢
    obtain ⟨b, o, h1, h2⟩ := r
    exact ⟨b, o, h1, VRC.ren hm hl ht l b o q h2⟩
  | .nilsl, _, _, r => by simpa [VR, AV.ren] using r
  | .sl l n cap, v, q, r => by
    simp only [VR, AV.ren, AV.refs] at q r ⊢
    obtain ⟨p, c, h1, h2, h3, h4⟩ := r
    exact ⟨p, c, h1, h2, h3, h4.imp (fun ⟨a1, a2, a3⟩ => ⟨a1, a2, by subst a3; rfl⟩) fun ⟨b, o, h5, h6⟩ => ⟨b, o, h5, VRC.ren hm hl ht l b o q h6⟩⟩
  | .gsl l n i sz, v, q, r => by
    simp only [VR, AV.refs, AV.ren, Bool.and_eq_true] at q r ⊢
    obtain ⟨p, c, h1, h2, h3, h4, t, h5, h6⟩ := r
    exact ⟨p, c, h1, h2, by rw [AV.renL_eq]; simpa using h3, h4.imp (fun ⟨a1, a2, a3⟩ => ⟨a1, a2, by subst a3; rfl⟩) fun ⟨b, o, h7, h8⟩ => ⟨b, o, h7, VRC.ren hm hl ht l b o q.2 h8⟩, t, ht _ _ q.1 h5, h6⟩
  | .lsl i off len cap sz, v, q, r => by
    simp only [VR, AV.ren, AV.refs] at q r ⊢
    obtain ⟨c, rc, d, h1, h2⟩ := r
    exact ⟨c, rc, d, hl _ _ q h1, h2⟩
  | .nilmap, _, _, r => by simpa [VR, AV.ren] using r
  | .lmap i, v, q, r => by
    simp only [VR, AV.ren, AV.refs] at q r ⊢
    obtain ⟨c, h1, h2⟩ := r
    exact ⟨c, hl _ _ q h1, h2⟩
  | .func g caps, v, q, r => by
    simp only [VR, AV.ren, AV.refs] at q r ⊢
    obtain ⟨vs, h1, h2⟩ := r
    exact ⟨vs, h1, VRL.ren hm hl ht caps vs q h2⟩
  | .nilfunc, _, _, r => by simpa [VR, AV.ren] using r
  | .nilif, _, _, r => by simpa [VR, AV.ren] using r
  | .iface t a, v, q, r => by
    simp only [VR, AV.ren, AV.refs] at q r ⊢
    obtain ⟨x, h1, h2⟩ := r
    exact ⟨x, h1, VR.ren hm hl ht a x q h2⟩
  | .agg l, v, q, r => by
    simp only [VR, AV.ren, AV.refs] at q r ⊢
    obtain ⟨vs, h1, h2⟩ := r
    exact ⟨vs, h1, VRL.ren hm hl ht l vs q h2⟩
  | .tup l, v, q, r => by
    simp only [VR, AV.ren, AV.refs] at q r ⊢
    obtain ⟨vs, h1, h2⟩ := r
    exact ⟨vs, h1, VRL.ren hm hl ht l vs q h2⟩
theorem VRL.ren {E E' : Env} {p : Nat → Bool} {f : Nat → Nat} (hm : ∀ b o v, E.mem b o = some v → E'.mem b o = some v) (hl : ∀ i c, p i = true → E.loc i = some c → E'.loc (f i) = some c) (ht : ∀ i t, p i = true → E.tok i = some t → E'.tok (f i) = some t) :
    ∀ (l : List AV) (vs : List Value), AV.refsL p l = true → VRL E l vs → VRL E' (AV.renL f l) vs
  | [], _, _, r => by simpa [VRL, AV.renL] using r
  | a :: l, vs, q, r => by
    simp only [VRL, AV.refsL, AV.renL, Bool.and_eq_true] at q r ⊢
    obtain ⟨x, xs, h1, h2, h3⟩ := r
    exact ⟨x, xs, h1, VR.ren hm hl ht a x q.1 h2, VRL.ren hm hl ht l xs q.2 h3⟩
theorem VRC.ren {E E' : Env} {p : Nat → Bool} {f : Nat → Nat} (hm : ∀ b o v, E.mem b o = some v → E'.mem b o = some v) (hl : ∀ i c, p i = true → E.loc i = some c → E'.loc (f i) = some c) (ht : ∀ i t, p i = true → E.tok i = some t → E'.tok (f i) = some t) :
    ∀ (l : List AV) (b o : Nat), AV.refsL p l = true → VRC E l b o → VRC E' (AV.renL f l) b o
  | [], _, _, _, _ => by simp [VRC, AV.renL]
  | a :: l, b, o, q, r => by
    simp only [VRC, AV.refsL, AV.renL, Bool.and_eq_true] at q r ⊢
    obtain ⟨⟨x, h1, h2⟩, h3⟩ := r
    exact ⟨⟨x, hm _ _ _ h1, VR.ren hm hl ht a x q.1 h2⟩, VRC.ren hm hl ht l b (o + 1) q.2 h3⟩
end

/-! ### Memory that stays, from now on -/

/-- An owned row that nobody will write any more. -/
theorem Rel.snap {w0 : World} {S0 : Nat → Prop} {E : Env} {L : List Blk} {w : World} (h : Rel w0 S0 E L w) {i : Nat} {l : List AV} {c : Loc} (hi : L[i]? = some (.cells l)) (hc : E.loc i = some c) :
    ∃ E', E.le E' ∧ Rel w0 S0 E' (L.set i .dead) w ∧ VRC E' l c.blk c.off ∧ E'.loc = E.loc := by
  obtain ⟨c', cs, ty, fr, h1, h2, h3, h4, h5, h6⟩ := h.blk i _ hi
  rw [hc] at h1; cases h1
  have hown := h.own i _ c hi rfl hc
  have hle : E.le { E with mem := fun b o => if b = c.blk ∧ c.off ≤ o ∧ o < c.off + l.length then w.cell? ⟨b, o, none⟩ else E.mem b o } := by
    refine ⟨fun b o v hv => ?_, fun _ _ x => x, fun _ t h => ⟨t, h, .inl rfl⟩⟩
    show (if b = c.blk ∧ c.off ≤ o ∧ o < c.off + l.length then w.cell? ⟨b, o, none⟩ else E.mem b o) = some v
    split
    · exact h.mem b o v hv
    · exact hv
  refine ⟨{ E with mem := fun b o => if b = c.blk ∧ c.off ≤ o ∧ o < c.off + l.length then w.cell? ⟨b, o, none⟩ else E.mem b o }, hle, ?_, ?_, rfl⟩
  ·
    have fix : ∀ (j : Nat) (k : Blk), (L.set i .dead)[j]? = some k → k.live = true → j ≠ i ∧ L[j]? = some k := fun j k hk hl => by
      rw [List.getElem?_set] at hk
      split at hk
      · split at hk
        · cases hk; simp [Blk.live] at hl
        · cases hk
      · rename_i hne; exact ⟨fun e => hne e.symm, hk⟩
    refine ⟨fun b o v hv => ?_, fun j k hk => ?_, fun j hj => h.fresh j (by simpa using hj), fun j k d hk hl hd => ?_, fun j j' k k' d d' hj lj hj' lj' => h.inj j j' k k' d d' (fix j k hj lj).2 lj (fix j' k' hj' lj').2 lj',
      fun j hj => h.tkfresh j (by simpa using hj), fun j n sz t d hj ht hd => ⟨fun o ho => ?_, (h.tkown j n sz t d (spare_set (by simp) hj) ht hd).2⟩, fun j n sz t d j' k' c' hj ht hd hj' hl => h.tkloc j n sz t d j' k' c' (spare_set (by simp) hj) ht hd (fix j' k' hj' hl).2 hl,
      fun j n sz t d j' n' sz' t' d' hj ht hd hj' => h.tkinj j n sz t d j' n' sz' t' d' (spare_set (by simp) hj) ht hd (spare_set (by simp) hj'), h.frame, h.size, h.os, h.tape, h.output, h.glob.mono hle.mem, h.gsz⟩
    · have hv : (if b = c.blk ∧ c.off ≤ o ∧ o < c.off + l.length then w.cell? ⟨b, o, none⟩ else E.mem b o) = some v := hv
      split at hv
      · exact hv
      · exact h.mem b o v hv
    · rcases hl : k.live with _ | _
      · rw [List.getElem?_set] at hk
        split at hk
        · split at hk
          · cases hk; simp [BRel]
          · cases hk
        · exact BRel.still (E := E) hl rfl (fun _ _ _ _ _ _ _ => rfl) (h.blk j k hk)
      · exact BRel.mono hle hl (h.blk j k (fix j k hk hl).2)
    · obtain ⟨hne, hj⟩ := fix j k hk hl
      have hd : E.loc j = some d := hd
      refine ⟨fun o => ?_, (h.own j k d hj hl hd).2⟩
      show (if d.blk = c.blk ∧ c.off ≤ o ∧ o < c.off + l.length then w.cell? ⟨d.blk, o, none⟩ else E.mem d.blk o) = none
      rw [if_neg fun e => hne (h.inj j i k _ d c hj hl hi rfl hd hc e.1)]
      exact (h.own j k d hj hl hd).1 o
    · have hj' := spare_set (by simp) hj
      show (if d.blk = c.blk ∧ c.off ≤ o ∧ o < c.off + l.length then w.cell? ⟨d.blk, o, none⟩ else E.mem d.blk o) = none
      rw [if_neg fun e => h.tkloc j n sz t d i _ c hj' ht hd hi rfl hc e.1.symm]
      exact (h.tkown j n sz t d hj' ht hd).1 o ho
  · refine VRC.of_get fun j a ha => ?_
    obtain ⟨v, h7, h8⟩ := h5 j a ha
    have hlt : j < l.length := (List.getElem?_eq_some_iff.1 ha).1
    refine ⟨v, ?_, VR.mono hle _ _ h8⟩
    show (if c.blk = c.blk ∧ c.off ≤ c.off + j ∧ c.off + j < c.off + l.length then w.cell? ⟨c.blk, c.off + j, none⟩ else E.mem c.blk (c.off + j)) = some v
    rw [if_pos ⟨rfl, by omega, by omega⟩]
    simp [World.cell?, h2, h7]

/-- A new row that nobody will write. -/
theorem Rel.imm {w0 : World} {S0 : Nat → Prop} {E : Env} {L : List Blk} {w : World} (h : Rel w0 S0 E L w) (cs : List Value) (ty : TypeId) (l : List AV) (hl : VRL E l cs) (extra : List Value) (fr : Nat × Nat) :
    ∃ E', E.le E' ∧ Rel w0 S0 E' L { w with heap := w.heap.push (.cells ⟨cs ++ extra⟩ ty fr) } ∧ VRC E' l w.heap.size 0 ∧ E'.loc = E.loc := by
  have hle : E.le { E with mem := fun b o => if b = w.heap.size then cs[o]? else E.mem b o } := by
    refine ⟨fun b o v hv => ?_, fun _ _ x => x, fun _ t h => ⟨t, h, .inl rfl⟩⟩
    show (if b = w.heap.size then cs[o]? else E.mem b o) = some v
    rw [if_neg (by have := h.mem_lt hv; omega)]; exact hv
  refine ⟨{ E with mem := fun b o => if b = w.heap.size then cs[o]? else E.mem b o }, hle, ?_, ?_, rfl⟩
  · refine ⟨fun b o v hv => ?_, fun j k hk => ?_, h.fresh, fun j k d hk hl hd => ?_, h.inj, h.tkfresh, fun j n sz t d hj ht hd => ⟨fun o ho => ?_, (h.tkown j n sz t d hj ht hd).2⟩, h.tkloc, h.tkinj, fun k hk hs => ?_, ?_, h.os, h.tape, h.output, h.glob.mono hle.mem, h.gsz.push _⟩
    · replace hv : (if b = w.heap.size then cs[o]? else E.mem b o) = some v := hv
      by_cases e : b = w.heap.size
      · rw [if_pos e] at hv
        subst e
        have hlt : o < cs.length := (List.getElem?_eq_some_iff.1 hv).1
        simp [World.cell?, List.getElem?_append, hlt]
        simpa [List.getElem?_eq_getElem hlt] using hv
      · rw [if_neg e] at hv
        exact cell?_push (h.mem b o v hv)
    · rcases hl : k.live with _ | _
      · exact BRel.still (E := E) hl rfl (fun t d n sz e ht hd => Array.getElem?_push_lt (h.tok_lt (e ▸ hk) ht hd) |>.trans (Array.getElem?_eq_getElem _).symm) (h.blk j k hk)
      · refine BRel.worldL hl (fun d hd => ?_) (BRel.mono hle hl (h.blk j k hk))
        exact Array.getElem?_push_lt (h.loc_lt hk hl hd) |>.trans (Array.getElem?_eq_getElem _).symm
    · have hd : E.loc j = some d := hd
      refine ⟨fun o => ?_, (h.own j k d hk hl hd).2⟩
      show (if d.blk = w.heap.size then cs[o]? else E.mem d.blk o) = none
      rw [if_neg (by have := h.loc_lt hk hl hd; omega)]
      exact (h.own j k d hk hl hd).1 o
    · show (if d.blk = w.heap.size then cs[o]? else E.mem d.blk o) = none
      rw [if_neg (by have := h.tok_lt hj ht hd; omega)]
      exact (h.tkown j n sz t d hj ht hd).1 o ho
    · rw [← h.frame k hk hs]
      exact Array.getElem?_push_lt (Nat.lt_of_lt_of_le hk h.size) |>.trans (Array.getElem?_eq_getElem _).symm
    · simp; have := h.size; omega
  · refine VRC.of_get fun j a ha => ?_
    obtain ⟨v, h1, h2⟩ := hl.get ha
    refine ⟨v, ?_, VR.mono hle _ _ h2⟩
    show (if w.heap.size = w.heap.size then cs[0 + j]? else E.mem w.heap.size (0 + j)) = some v
    simpa using h1

/-! ### A call: the callee's frame -/

def Owns (E : Env) (L : List Blk) (b : Nat) : Prop := (∃ i k c, L[i]? = some k ∧ k.live = true ∧ E.loc i = some c ∧ c.blk = b) ∨ ∃ i n sz t c, L[i]? = some (.spare n sz) ∧ E.tok i = some t ∧ t.loc = some c ∧ c.blk = b

theorem Rel.enter {w0 : World} {S0 : Nat → Prop} {E : Env} {L : List Blk} {w : World} (h : Rel w0 S0 E L w) : Rel w (Owns E L) E L w :=
  ⟨h.mem, h.blk, h.fresh, fun i k c hk hl hc => ⟨(h.own i k c hk hl hc).1, .inl (.inl ⟨i, k, c, hk, hl, hc, rfl⟩)⟩, h.inj, h.tkfresh, fun i n sz t c hi ht hc => ⟨(h.tkown i n sz t c hi ht hc).1, .inl (.inr ⟨i, n, sz, t, c, hi, ht, hc, rfl⟩)⟩, h.tkloc, h.tkinj, fun _ _ _ => rfl, Nat.le_refl _, rfl, rfl, rfl, h.glob, h.gsz⟩

theorem Rel.back {w0 : World} {S0 : Nat → Prop} {E E' : Env} {L L' : List Blk} {w w' : World} (h : Rel w0 S0 E L w) (k : Rel w (Owns E L) E' L' w') : Rel w0 S0 E' L' w' := by
  have key : ∀ b, Owns E L b → S0 b ∨ w0.heap.size ≤ b := fun b hb => by
    rcases hb with ⟨i, k, c, h1, h2, h3, h4⟩ | ⟨i, n, sz, t, c, h1, h2, h3, h4⟩
    · exact h4 ▸ (h.own i k c h1 h2 h3).2
    · exact h4 ▸ (h.tkown i n sz t c h1 h2 h3).2
  refine ⟨k.mem, k.blk, k.fresh, fun i x c hx hl hc => ⟨(k.own i x c hx hl hc).1, ?_⟩, k.inj, k.tkfresh, fun i n sz t c hi ht hc => ⟨(k.tkown i n sz t c hi ht hc).1, ?_⟩, k.tkloc, k.tkinj, fun b hb hs => ?_, Nat.le_trans h.size k.size, k.os.trans h.os, k.tape.trans h.tape, k.output.trans h.output, k.glob, k.gsz⟩
  · rcases (k.own i x c hx hl hc).2 with h1 | h1
    · exact key _ h1
    · exact .inr (Nat.le_trans h.size h1)
  · rcases (k.tkown i n sz t c hi ht hc).2 with h1 | h1
    · exact key _ h1
    · exact .inr (Nat.le_trans h.size h1)
  · rw [k.frame b (Nat.lt_of_lt_of_le hb h.size) fun ho => (key b ho).elim hs (fun h1 => by omega), h.frame b hb hs]

/-- What is known of the places g 0 .. g (n - 1), as of 0 .. n - 1. -/
def Env.res (E : Env) (n : Nat) (g : Nat → Nat) : Env := { mem := E.mem, loc := fun i => if i < n then E.loc (g i) else none, tok := fun i => if i < n then E.tok (g i) else none }
theorem Env.res_loc {E : Env} {n i : Nat} {g : Nat → Nat} (h : i < n) : (E.res n g).loc i = E.loc (g i) := by simp [Env.res, h]
theorem Env.res_tok {E : Env} {n i : Nat} {g : Nat → Nat} (h : i < n) : (E.res n g).tok i = E.tok (g i) := by simp [Env.res, h]

/-- Fewer places, with other numbers: 'g' says where the place lay. -/
theorem Rel.renum {w0 : World} {S0 : Nat → Prop} {E : Env} {L L' : List Blk} {w : World} (h : Rel w0 S0 E L w) (g : Nat → Nat)
    (hinj : ∀ i j, i < L'.length → j < L'.length → g i = g j → i = j)
    (hs : ∀ (i n sz : Nat), L'[i]? = some (.spare n sz) → L[g i]? = some (.spare n sz))
    (hb : ∀ (i : Nat) (k : Blk), L'[i]? = some k → k.live = true → ∃ k0 : Blk, L[g i]? = some k0 ∧ k0.live = true ∧ BRel (E.res L'.length g) w i k) :
    Rel w0 S0 (E.res L'.length g) L' w := by
  have lt : ∀ (i : Nat) (k : Blk), L'[i]? = some k → i < L'.length := fun i k hk => (List.getElem?_eq_some_iff.1 hk).1
  refine ⟨h.mem, fun i k hk => ?_, fun i hi => ?_, fun i k c hk hl hc => ?_, fun i j k k' c c' hi li hj lj hci hcj he => ?_, fun i hi => ?_, fun i n sz t d hi ht hd => ?_, fun i n sz t d j k' c' hi ht hd hj hl hc' => ?_, fun i n sz t d i' n' sz' t' d' hi ht hd hi' ht' hd' e => ?_, h.frame, h.size, h.os, h.tape, h.output, h.glob, h.gsz⟩
  · rcases hl : k.live with _ | _
    · cases k <;> simp only [Blk.live, Bool.true_eq_false] at hl
      · simp [BRel]
      · exact BRel.still (i := g i) rfl (Env.res_tok (lt i _ hk)) (fun _ _ _ _ _ _ _ => rfl) (h.blk (g i) _ (hs i _ _ hk))
    · obtain ⟨_, _, _, r⟩ := hb i k hk hl; exact r
  · simp only [Env.res]
    rw [if_neg (by omega)]
  · rw [Env.res_loc (lt i k hk)] at hc
    obtain ⟨k0, h1, h2, _⟩ := hb i k hk hl
    exact h.own (g i) k0 c h1 h2 hc
  · rw [Env.res_loc (lt i k hi)] at hci
    rw [Env.res_loc (lt j k' hj)] at hcj
    obtain ⟨k0, h1, h2, _⟩ := hb i k hi li
    obtain ⟨k1, h3, h4, _⟩ := hb j k' hj lj
    exact hinj i j (lt i k hi) (lt j k' hj) (h.inj _ _ _ _ _ _ h1 h2 h3 h4 hci hcj he)
  · simp only [Env.res]
    rw [if_neg (by omega)]
  · rw [Env.res_tok (lt i _ hi)] at ht
    exact h.tkown (g i) n sz t d (hs _ _ _ hi) ht hd
  · rw [Env.res_tok (lt i _ hi)] at ht
    rw [Env.res_loc (lt j k' hj)] at hc'
    obtain ⟨k0, h1, h2, _⟩ := hb j k' hj hl
    exact h.tkloc (g i) n sz t d (g j) k0 c' (hs _ _ _ hi) ht hd h1 h2 hc'
  · rw [Env.res_tok (lt i _ hi)] at ht
    rw [Env.res_tok (lt i' _ hi')] at ht'
    exact hinj i i' (lt i _ hi) (lt i' _ hi') (h.tkinj (g i) n sz t d (g i') n' sz' t' d' (hs _ _ _ hi) ht hd (hs _ _ _ hi') ht' hd' e)

/-- The places behind the first n may be forgotten, if the blocks that stay don't look there. -/
def Blk.refs (p : Nat → Bool) : Blk → Bool
  | .cells l => AV.refsL p l
  | .map es _ => es.all fun e => e.1.refs p && e.2.1.refs p
  | .miter (some j) _ _ _ => p j
  | _ => true

theorem MapRel.cut {E E' : Env} {p : Nat → Bool} (hm : ∀ b o v, E.mem b o = some v → E'.mem b o = some v) (hl : ∀ i c, p i = true → E.loc i = some c → E'.loc i = some c) (ht : ∀ i t, p i = true → E.tok i = some t → E'.tok i = some t) :
    ∀ {l : List (AV × AV × Nat)} {es : List MapEntry}, (l.all fun e => e.1.refs p && e.2.1.refs p) = true → MapRel E l es → MapRel E' l es
  | [], _, _, r => by simpa [MapRel] using r
  | (k, x, b) :: l, es, q, r => by
    simp only [List.all_cons, Bool.and_eq_true, MapRel] at q r ⊢
    obtain ⟨e, t, h1, h2, h3, h4, h5⟩ := r
    exact ⟨e, t, h1, VR.cut hm hl ht _ _ q.1.1 h2, VR.cut hm hl ht _ _ q.1.2 h3, h4, MapRel.cut hm hl ht q.2 h5⟩

theorem BRel.cut {E E' : Env} {p : Nat → Bool} {w : World} {i : Nat} (hm : ∀ b o v, E.mem b o = some v → E'.mem b o = some v) (hl : ∀ i c, p i = true → E.loc i = some c → E'.loc i = some c) (ht : ∀ i t, p i = true → E.tok i = some t → E'.tok i = some t)
    (hi : ∀ c, E.loc i = some c → E'.loc i = some c) : ∀ {k : Blk}, k.live = true → k.refs p = true → BRel E w i k → BRel E' w i k
  | .dead, q, _, _ => by simp [Blk.live] at q
  | .spare _ _, q, _, _ => by simp [Blk.live] at q
  | .cells l, _, q, r => by
    simp only [BRel, Blk.refs] at q r ⊢
    obtain ⟨c, cs, ty, fr, h1, h2, h3, h4, h5, h6⟩ := r
    exact ⟨c, cs, ty, fr, hi _ h1, h2, h3, h4, fun j a ha => let ⟨v, x, y⟩ := h5 j a ha; ⟨v, x, VR.cut hm hl ht _ _ (AV.refsL_iff.1 q a (List.mem_of_getElem? ha)) y⟩, h6⟩
  | .map es ck, _, q, r => by
    simp only [BRel, Blk.refs] at q r ⊢
    obtain ⟨c, rs, h1, h2, h3⟩ := r
    exact ⟨c, rs, hi _ h1, h2, MapRel.cut hm hl ht q h3⟩
  | .miter m since seen last, _, q, r => by
    simp only [BRel] at r ⊢
    obtain ⟨c, s, h1, h2, h3, h4⟩ := r
    refine ⟨c, s, hi _ h1, h2, h3, ?_⟩
    cases m with
    | none => exact h4
    | some j => obtain ⟨d, g1, g2⟩ := h4; exact ⟨d, hl j d q g1, g2⟩
  | .siter s pos, _, _, r => by
    simp only [BRel] at r ⊢
    obtain ⟨c, h1, h2⟩ := r
    exact ⟨c, hi _ h1, h2⟩

theorem Rel.cut {w0 : World} {S0 : Nat → Prop} {E : Env} {L L' : List Blk} {w : World} (h : Rel w0 S0 E (L ++ L') w) (hr : ∀ k ∈ L, k.refs (fun i => decide (i < L.length)) = true) :
    Rel w0 S0 (E.res L.length id) L w := by
  have up : ∀ (i : Nat) (k : Blk), L[i]? = some k → (L ++ L')[i]? = some k := fun i k hk => by
    rw [List.getElem?_append_left (List.getElem?_eq_some_iff.1 hk).1]; exact hk
  refine h.renum (L' := L) id (fun _ _ _ _ e => e) (fun i n sz hi => up i _ hi) fun i k hk hl => ?_
  have hlt : i < L.length := (List.getElem?_eq_some_iff.1 hk).1
  refine ⟨k, up i k hk, hl, ?_⟩
  refine BRel.cut (E := E) (E' := E.res L.length id) (p := fun i => decide (i < L.length)) (fun _ _ _ x => x) (fun j c hj hc => ?_) (fun j t hj ht => ?_) (fun c hc => ?_) hl (hr k (List.mem_of_getElem? hk)) (h.blk i k (up i k hk))
  · rw [Env.res_loc (by simpa using hj)]; exact hc
  · rw [Env.res_tok (by simpa using hj)]; exact ht
  · rw [Env.res_loc hlt]; exact hc

/-! ### Rows that grow -/

/-- A new row that nobody will write, and what is known of it. -/
theorem Rel.imm' {w0 : World} {S0 : Nat → Prop} {E : Env} {L : List Blk} {w : World} (h : Rel w0 S0 E L w) (cs : List Value) (ty : TypeId) (l : List AV) (hl : VRL E l cs) (extra : List Value) (fr : Nat × Nat) :
    ∃ E', E.le E' ∧ Rel w0 S0 E' L { w with heap := w.heap.push (.cells ⟨cs ++ extra⟩ ty fr) } ∧ VRC E' l w.heap.size 0 ∧ E'.loc = E.loc ∧ E'.tok = E.tok ∧ ∀ o, cs.length ≤ o → E'.mem w.heap.size o = none := by
  have hle : E.le { E with mem := fun b o => if b = w.heap.size then cs[o]? else E.mem b o } := by
    refine ⟨fun b o v hv => ?_, fun _ _ x => x, fun _ t h => ⟨t, h, .inl rfl⟩⟩
    show (if b = w.heap.size then cs[o]? else E.mem b o) = some v
    rw [if_neg (by have := h.mem_lt hv; omega)]; exact hv
  refine ⟨{ E with mem := fun b o => if b = w.heap.size then cs[o]? else E.mem b o }, hle, ?_, ?_, rfl, rfl, fun o ho => ?_⟩
  · refine ⟨fun b o v hv => ?_, fun j k hk => ?_, h.fresh, fun j k d hk hl hd => ?_, h.inj, h.tkfresh, fun j n sz t d hj ht hd => ⟨fun o ho => ?_, (h.tkown j n sz t d hj ht hd).2⟩, h.tkloc, h.tkinj, fun k hk hs => ?_, ?_, h.os, h.tape, h.output, h.glob.mono hle.mem, h.gsz.push _⟩
    · replace hv : (if b = w.heap.size then cs[o]? else E.mem b o) = some v := hv
      by_cases e : b = w.heap.size
      · rw [if_pos e] at hv
        subst e
        have hlt : o < cs.length := (List.getElem?_eq_some_iff.1 hv).1
        simp [World.cell?, List.getElem?_append, hlt]
        simpa [List.getElem?_eq_getElem hlt] using hv
      · rw [if_neg e] at hv
        exact cell?_push (h.mem b o v hv)
    · rcases hl : k.live with _ | _
      · exact BRel.still (E := E) hl rfl (fun t d n sz e ht hd => Array.getElem?_push_lt (h.tok_lt (e ▸ hk) ht hd) |>.trans (Array.getElem?_eq_getElem _).symm) (h.blk j k hk)
      · refine BRel.worldL hl (fun d hd => ?_) (BRel.mono hle hl (h.blk j k hk))
        exact Array.getElem?_push_lt (h.loc_lt hk hl hd) |>.trans (Array.getElem?_eq_getElem _).symm
    · have hd : E.loc j = some d := hd
      refine ⟨fun o => ?_, (h.own j k d hk hl hd).2⟩
      show (if d.blk = w.heap.size then cs[o]? else E.mem d.blk o) = none
      rw [if_neg (by have := h.loc_lt hk hl hd; omega)]
      exact (h.own j k d hk hl hd).1 o
    · show (if d.blk = w.heap.size then cs[o]? else E.mem d.blk o) = none
      rw [if_neg (by have := h.tok_lt hj ht hd; omega)]
      exact (h.tkown j n sz t d hj ht hd).1 o ho
    · rw [← h.frame k hk hs]
      exact Array.getElem?_push_lt (Nat.lt_of_lt_of_le hk h.size) |>.trans (Array.getElem?_eq_getElem _).symm
    · simp; have := h.size; omega
  · refine VRC.of_get fun j a ha => ?_
    obtain ⟨v, h1, h2⟩ := hl.get ha
    refine ⟨v, ?_, VR.mono hle _ _ h2⟩
    show (if w.heap.size = w.heap.size then cs[0 + j]? else E.mem w.heap.size (0 + j)) = some v
    simpa using h1
  · show (if w.heap.size = w.heap.size then cs[o]? else E.mem w.heap.size o) = none
    rw [if_pos rfl]; simpa using ho

/-- What a token's room must be. -/
def Room (w0 : World) (S0 : Nat → Prop) (E : Env) (L : List Blk) (w : World) (i n sz : Nat) (lc : Option Loc) : Prop := ∀ k, lc = some k →
  (∃ cs ty fr, w.heap[k.blk]? = some (.cells cs ty fr) ∧ cs.size = k.size ∧ (∀ o, n * sz ≤ o → o < k.size → ¬ (fr.1 ≤ o ∧ o < fr.2))) ∧ (∀ o, n * sz ≤ o → E.mem k.blk o = none) ∧ (S0 k.blk ∨ w0.heap.size ≤ k.blk) ∧
  (∀ j k' c, L[j]? = some k' → k'.live = true → E.loc j = some c → c.blk ≠ k.blk) ∧ (∀ j n' sz' t' k', j ≠ i → L[j]? = some (.spare n' sz') → E.tok j = some t' → t'.loc = some k' → k'.blk ≠ k.blk)

theorem Room_none {w0 : World} {S0 : Nat → Prop} {E : Env} {L : List Blk} {w : World} {i n sz : Nat} : Room w0 S0 E L w i n sz none := fun _ h => by cases h

/-- A token, set anew. -/
theorem Rel.settok {w0 : World} {S0 : Nat → Prop} {E : Env} {L : List Blk} {w : World} (h : Rel w0 S0 E L w) {i n sz : Nat} {lc : Option Loc} (hi : ∃ m s, L[i]? = some (.spare m s)) (hpos : ∀ t, E.tok i = some t → t.pos < n) (hr : Room w0 S0 E L w i n sz lc) :
    E.le { E with tok := fun j => if j = i then some ⟨n, sz, lc⟩ else E.tok j } ∧ Rel w0 S0 { E with tok := fun j => if j = i then some ⟨n, sz, lc⟩ else E.tok j } (L.set i (.spare n sz)) w := by
  obtain ⟨m0, s0, hi⟩ := hi
  have hlt : i < L.length := (List.getElem?_eq_some_iff.1 hi).1
  have fix : ∀ (j : Nat) (k : Blk), (L.set i (.spare n sz))[j]? = some k → k.live = true → j ≠ i ∧ L[j]? = some k := fun j k hk hl => by
    rw [List.getElem?_set] at hk
    by_cases e : i = j
    · subst e
      rw [if_pos rfl, if_pos hlt] at hk
      cases hk; simp [Blk.live] at hl
    · rw [if_neg e] at hk; exact ⟨fun e2 => e e2.symm, hk⟩
  have fixs : ∀ (j n' s' : Nat) (t : Tok), (L.set i (.spare n sz))[j]? = some (.spare n' s') → (if j = i then some (⟨n, sz, lc⟩ : Tok) else E.tok j) = some t → (j = i ∧ n' = n ∧ s' = sz ∧ t = ⟨n, sz, lc⟩) ∨ (j ≠ i ∧ L[j]? = some (.spare n' s') ∧ E.tok j = some t) := fun j n' s' t hk ht => by
    rw [List.getElem?_set] at hk
    by_cases e : j = i
    · subst e
      rw [if_pos rfl] at hk ht
      rw [if_pos hlt] at hk
      cases hk; cases ht
      exact .inl ⟨rfl, rfl, rfl, rfl⟩
    · rw [if_neg (Ne.symm e)] at hk
      rw [if_neg e] at ht
      exact .inr ⟨e, hk, ht⟩
  have hle : E.le { E with tok := fun j => if j = i then some ⟨n, sz, lc⟩ else E.tok j } := ⟨fun _ _ _ x => x, fun _ _ x => x, fun j t ht => by
    show ∃ t', (if j = i then some (⟨n, sz, lc⟩ : Tok) else E.tok j) = some t' ∧ _
    by_cases e : j = i
    · subst e; exact ⟨_, if_pos rfl, .inr (hpos t ht)⟩
    · exact ⟨t, by rw [if_neg e]; exact ht, .inl rfl⟩⟩
  refine ⟨hle, h.mem, fun j k hk => ?_, fun j hj => h.fresh j (by simpa using hj), fun j k c hk hl hc => h.own j k c (fix j k hk hl).2 hl hc, fun j j' k k' c c' hk hl hk' hl' => h.inj j j' k k' c c' (fix j k hk hl).2 hl (fix j' k' hk' hl').2 hl',
    fun j hj => ?_, fun j n' s' t d hj ht hd => ?_, fun j n' s' t d j' k' c' hj ht hd hj' hl' hc' => ?_, fun j n' s' t d j' n2 s2 t' d' hj ht hd hj' ht' hd' e => ?_, h.frame, h.size, h.os, h.tape, h.output, h.glob, h.gsz⟩
  · rcases hl : k.live with _ | _
    · rw [List.getElem?_set] at hk
      by_cases e : i = j
      · subst e
        rw [if_pos rfl, if_pos hlt] at hk; cases hk
        refine ⟨⟨n, sz, lc⟩, by simp, rfl, rfl, fun k hk => (hr k hk).1⟩
      · rw [if_neg e] at hk
        refine BRel.still (E := E) (i := j) hl ?_ (fun _ _ _ _ _ _ _ => rfl) (h.blk j k hk)
        show (if j = i then some _ else E.tok j) = E.tok j
        rw [if_neg (Ne.symm e)]
    · exact BRel.mono hle hl (h.blk j k (fix j k hk hl).2)
  · show (if j = i then some _ else E.tok j) = none
    rw [if_neg (by have : L.length ≤ j := by simpa using hj
                   omega)]
    exact h.tkfresh j (by simpa using hj)
  · rcases fixs j n' s' t hj ht with ⟨rfl, rfl, rfl, rfl⟩ | ⟨_, h1, h2⟩
    · exact ⟨(hr d hd).2.1, (hr d hd).2.2.1⟩
    · exact h.tkown j n' s' t d h1 h2 hd
  · obtain ⟨_, h3⟩ := fix j' k' hj' hl'
    rcases fixs j n' s' t hj ht with ⟨rfl, rfl, rfl, rfl⟩ | ⟨_, h1, h2⟩
    · exact (hr d hd).2.2.2.1 j' k' c' h3 hl' hc'
    · exact h.tkloc j n' s' t d j' k' c' h1 h2 hd h3 hl' hc'
  · rcases fixs j n' s' t hj ht with ⟨rfl, rfl, rfl, rfl⟩ | ⟨n1, h1, h2⟩ <;> rcases fixs j' n2 s2 t' hj' ht' with ⟨rfl, rfl, rfl, rfl⟩ | ⟨n3, h3, h4⟩
    · rfl
    · exact absurd e.symm ((hr d hd).2.2.2.2 j' n2 s2 t' d' n3 h3 h4 hd')
    · exact absurd e ((hr d' hd').2.2.2.2 j n' s' t d n1 h1 h2 hd)
    · exact h.tkinj j n' s' t d j' n2 s2 t' d' h1 h2 hd h3 h4 hd' e

/-- A new token. -/
theorem Rel.addtok {w0 : World} {S0 : Nat → Prop} {E : Env} {L : List Blk} {w : World} (h : Rel w0 S0 E L w) {n sz : Nat} {lc : Option Loc} (hr : Room w0 S0 E L w L.length n sz lc) :
    E.le { E with tok := fun j => if j = L.length then some ⟨n, sz, lc⟩ else E.tok j } ∧ Rel w0 S0 { E with tok := fun j => if j = L.length then some ⟨n, sz, lc⟩ else E.tok j } (L ++ [.spare n sz]) w := by
  have hn : E.tok L.length = none := h.tkfresh _ (Nat.le_refl _)
  have hle : E.le { E with tok := fun j => if j = L.length then some ⟨n, sz, lc⟩ else E.tok j } := ⟨fun _ _ _ x => x, fun _ _ x => x, fun j t ht => by
    show ∃ t', (if j = L.length then some (⟨n, sz, lc⟩ : Tok) else E.tok j) = some t' ∧ _
    rw [if_neg (fun e => by rw [e, hn] at ht; cases ht)]
    exact ⟨t, ht, .inl rfl⟩⟩
  have lt : ∀ (i : Nat) (k : Blk), L[i]? = some k → i < L.length := fun i k hk => (List.getElem?_eq_some_iff.1 hk).1
  have fix : ∀ (j : Nat) (k : Blk), (L ++ [.spare n sz])[j]? = some k → (j = L.length ∧ k = .spare n sz) ∨ (j < L.length ∧ L[j]? = some k) := fun j k hk => by
    rw [List.getElem?_append] at hk
    split at hk
    · exact .inr ⟨lt j k hk, hk⟩
    · rcases Nat.lt_or_ge (j - L.length) 1 with h1 | h1
      · have h2 : j - L.length = 0 := by omega
        rw [h2] at hk; simp at hk
        exact .inl ⟨by omega, hk.symm⟩
      · rw [List.getElem?_eq_none (by simpa using h1)] at hk; cases hk
  have fixl : ∀ (j : Nat) (k : Blk), (L ++ [.spare n sz])[j]? = some k → k.live = true → L[j]? = some k := fun j k hk hl => by
    rcases fix j k hk with ⟨_, e⟩ | ⟨_, e⟩
    · subst e; simp [Blk.live] at hl
    · exact e
  have fixs : ∀ (j n' s' : Nat) (t : Tok), (L ++ [.spare n sz])[j]? = some (.spare n' s') → (if j = L.length then some (⟨n, sz, lc⟩ : Tok) else E.tok j) = some t → (j = L.length ∧ n' = n ∧ s' = sz ∧ t = ⟨n, sz, lc⟩) ∨ (j ≠ L.length ∧ L[j]? = some (.spare n' s') ∧ E.tok j = some t) := fun j n' s' t hk ht => by
    rcases fix j _ hk with ⟨e, e2⟩ | ⟨e, e2⟩
    · rw [if_pos e] at ht; cases e2; cases ht
      exact .inl ⟨e, rfl, rfl, rfl⟩
    · rw [if_neg (by omega)] at ht
      exact .inr ⟨by omega, e2, ht⟩
  refine ⟨hle, h.mem, fun j k hk => ?_, fun j hj => h.fresh j (by simp at hj; omega), fun j k c hk hl hc => h.own j k c (fixl j k hk hl) hl hc, fun j j' k k' c c' hk hl hk' hl' => h.inj j j' k k' c c' (fixl j k hk hl) hl (fixl j' k' hk' hl') hl',
    fun j hj => ?_, fun j n' s' t d hj ht hd => ?_, fun j n' s' t d j' k' c' hj ht hd hj' hl' hc' => ?_, fun j n' s' t d j' n2 s2 t' d' hj ht hd hj' ht' hd' e => ?_, h.frame, h.size, h.os, h.tape, h.output, h.glob, h.gsz⟩
  · rcases fix j k hk with ⟨e, e2⟩ | ⟨e, e2⟩
    · subst e; subst e2
      exact ⟨⟨n, sz, lc⟩, by simp, rfl, rfl, fun k hk => (hr k hk).1⟩
    · rcases hl : k.live with _ | _
      · refine BRel.still (E := E) (i := j) hl ?_ (fun _ _ _ _ _ _ _ => rfl) (h.blk j k e2)
        show (if j = L.length then some _ else E.tok j) = E.tok j
        rw [if_neg (by omega)]
      · exact BRel.mono hle hl (h.blk j k e2)
  · simp at hj
    show (if j = L.length then some _ else E.tok j) = none
    rw [if_neg (by omega)]
    exact h.tkfresh j (by omega)
  · rcases fixs j n' s' t hj ht with ⟨rfl, rfl, rfl, rfl⟩ | ⟨_, h1, h2⟩
    · exact ⟨(hr d hd).2.1, (hr d hd).2.2.1⟩
    · exact h.tkown j n' s' t d h1 h2 hd
  · have h3 := fixl j' k' hj' hl'
    rcases fixs j n' s' t hj ht with ⟨rfl, rfl, rfl, rfl⟩ | ⟨_, h1, h2⟩
    · exact (hr d hd).2.2.2.1 j' k' c' h3 hl' hc'
    · exact h.tkloc j n' s' t d j' k' c' h1 h2 hd h3 hl' hc'
  · rcases fixs j n' s' t hj ht with ⟨rfl, rfl, rfl, rfl⟩ | ⟨n1, h1, h2⟩ <;> rcases fixs j' n2 s2 t' hj' ht' with ⟨rfl, rfl, rfl, rfl⟩ | ⟨n3, h3, h4⟩
    · rfl
    · exact absurd e.symm ((hr d hd).2.2.2.2 j' n2 s2 t' d' n3 h3 h4 hd')
    · exact absurd e ((hr d' hd').2.2.2.2 j n' s' t d n1 h1 h2 hd)
    · exact h.tkinj j n' s' t d j' n2 s2 t' d' h1 h2 hd h3 h4 hd' e

/-- The room of a token is written: what was written stays from now on. -/
theorem Rel.tokwrite {w0 : World} {S0 : Nat → Prop} {E : Env} {L : List Blk} {w w' : World} (h : Rel w0 S0 E L w) {i m n sz : Nat} {t : Tok} {k : Loc} (hi : L[i]? = some (.spare m sz)) (ht : E.tok i = some t) (hk : t.loc = some k) (hmn : m < n)
    {cs cs' : Array Value} {ty : TypeId} {fr : Nat × Nat} (hc : w.heap[k.blk]? = some (.cells cs ty fr)) (hs : w'.heap.size = w.heap.size) (ho : ∀ b, b ≠ k.blk → w'.heap[b]? = w.heap[b]?) (e1 : w'.os = w.os) (e2 : w'.tape = w.tape) (e3 : w'.output = w.output)
    (hc' : w'.heap[k.blk]? = some (.cells cs' ty fr)) (hcs : cs'.size = cs.size) (hold : ∀ o, o < m * sz ∨ n * sz ≤ o → cs'[o]? = cs[o]?) :
    ∃ E', E.le E' ∧ Rel w0 S0 E' (L.set i (.spare n sz)) w' ∧ E'.tok i = some ⟨n, sz, some k⟩ ∧ (∀ o, m * sz ≤ o → o < n * sz → E'.mem k.blk o = cs'[o]?) := by
  have hmul : m * sz ≤ n * sz := Nat.mul_le_mul_right _ (by omega)
  have hlt : i < L.length := (List.getElem?_eq_some_iff.1 hi).1
  obtain ⟨t', q1, q2, q3, q4⟩ := h.blk i _ hi
  rw [ht] at q1; cases q1
  obtain ⟨cs0, ty0, fr0, q5, q6, q7⟩ := q4 k hk
  rw [hc] at q5; cases q5
  have hown := h.tkown i m sz t k hi ht hk
  -- the world first
  have hR1 : Rel w0 S0 E L w' := by
    refine ⟨fun b o v hv => ?_, fun j k2 hj => ?_, h.fresh, h.own, h.inj, h.tkfresh, h.tkown, h.tkloc, h.tkinj, fun b hb hs' => ?_, by rw [hs]; exact h.size, e1.trans h.os, e2.trans h.tape, e3.trans h.output, h.glob, h.gsz.mod (fun b cs1 ty1 fr1 hb => by
      by_cases e : b = k.blk
      · subst e; rw [hc] at hb; cases hb; exact ⟨cs', ty, fr, hc', hcs⟩
      · exact ⟨cs1, ty1, fr1, by rw [ho b e]; exact hb, rfl⟩)⟩
    · have := h.mem b o v hv
      by_cases e : b = k.blk
      · subst e
        have hlo : o < m * sz := by
          rcases Nat.lt_or_ge o (m * sz) with h1 | h1
          · exact h1
          · rw [hown.1 o h1] at hv; cases hv
        simp only [World.cell?, hc, hc'] at this ⊢
        rw [hold o (.inl hlo)]; exact this
      · simp only [World.cell?] at this ⊢
        rwa [ho b e]
    · rcases hl : k2.live with _ | _
      · by_cases e : j = i
        · subst e
          rw [hi] at hj; cases hj
          exact ⟨t, ht, q2, q3, fun k' hk' => by rw [hk] at hk'; cases hk'; exact ⟨cs', ty, fr, hc', by rw [hcs]; exact q6, q7⟩⟩
        · exact BRel.still (E := E) hl rfl (fun t2 d n2 sz2 e2 ht2 hd => ho d.blk fun e' => e (h.tkinj j n2 sz2 t2 d i m sz t k (e2 ▸ hj) ht2 hd hi ht hk e')) (h.blk j k2 hj)
      · exact BRel.worldL hl (fun d hd => ho d.blk (h.tkloc i m sz t k j k2 d hi ht hk hj hl hd)) (h.blk j k2 hj)
    · rw [ho b]
      · exact h.frame b hb hs'
      · intro e; subst e
        rcases hown.2 with h1 | h1
        · exact hs' h1
        · omega
  -- then what is known of it
  have hle1 : E.le { E with mem := fun b o => if b = k.blk ∧ m * sz ≤ o ∧ o < n * sz then w'.cell? ⟨b, o, none⟩ else E.mem b o } := by
    refine ⟨fun b o v hv => ?_, fun _ _ x => x, fun _ t h => ⟨t, h, .inl rfl⟩⟩
    show (if b = k.blk ∧ m * sz ≤ o ∧ o < n * sz then w'.cell? ⟨b, o, none⟩ else E.mem b o) = some v
    split
    · exact hR1.mem b o v hv
    · exact hv
  -- the token is set first
  have hroom : Room w0 S0 E L w' i n sz (some k) := fun k' hk' => by
    cases hk'
    refine ⟨⟨cs', ty, fr, hc', by rw [hcs]; exact q6, fun o h1 h2 => q7 o (by omega) h2⟩, fun o h1 => hown.1 o (by omega), hown.2, fun j k2 c hj hl hcj => h.tkloc i m sz t k j k2 c hi ht hk hj hl hcj, fun j n2 sz2 t2 k2 hne hj ht2 hk2 e => hne (h.tkinj j n2 sz2 t2 k2 i m sz t k hj ht2 hk2 hi ht hk e)⟩
  obtain ⟨hle2, hR2⟩ := hR1.settok ⟨m, sz, hi⟩ (fun t2 ht2 => by rw [ht] at ht2; cases ht2; omega) hroom
  have hle3 : ({ E with tok := fun j => if j = i then some ⟨n, sz, some k⟩ else E.tok j } : Env).le { mem := fun b o => if b = k.blk ∧ m * sz ≤ o ∧ o < n * sz then w'.cell? ⟨b, o, none⟩ else E.mem b o, loc := E.loc, tok := fun j => if j = i then some ⟨n, sz, some k⟩ else E.tok j } :=
    ⟨hle1.mem, fun _ _ x => x, fun _ t h => ⟨t, h, .inl rfl⟩⟩
  have fixs : ∀ (j n' s' : Nat) (t : Tok), (L.set i (.spare n sz))[j]? = some (.spare n' s') → (if j = i then some (⟨n, sz, some k⟩ : Tok) else E.tok j) = some t → (j = i ∧ n' = n ∧ s' = sz ∧ t = ⟨n, sz, some k⟩) ∨ (j ≠ i ∧ L[j]? = some (.spare n' s') ∧ E.tok j = some t) := fun j n' s' t hk ht => by
    rw [List.getElem?_set] at hk
    by_cases e : j = i
    · subst e
      rw [if_pos rfl] at hk ht
      rw [if_pos hlt] at hk
      cases hk; cases ht
      exact .inl ⟨rfl, rfl, rfl, rfl⟩
    · rw [if_neg (Ne.symm e)] at hk
      rw [if_neg e] at ht
      exact .inr ⟨e, hk, ht⟩
  refine ⟨{ mem := fun b o => if b = k.blk ∧ m * sz ≤ o ∧ o < n * sz then w'.cell? ⟨b, o, none⟩ else E.mem b o, loc := E.loc, tok := fun j => if j = i then some ⟨n, sz, some k⟩ else E.tok j }, hle2.trans hle3, ?_, by simp, fun o h1 h2 => ?_⟩
  · refine ⟨fun b o v hv => ?_, fun j k2 hj => ?_, hR2.fresh, fun j k2 c hj hl hcj => ⟨fun o => ?_, (hR2.own j k2 c hj hl hcj).2⟩, hR2.inj, hR2.tkfresh, fun j n2 s2 t2 d hj ht2 hd => ⟨fun o hoo => ?_, (hR2.tkown j n2 s2 t2 d hj ht2 hd).2⟩, hR2.tkloc, hR2.tkinj, hR2.frame, hR2.size, hR2.os, hR2.tape, hR2.output, hR2.glob.mono hle3.mem, hR2.gsz⟩
    · have hv : (if b = k.blk ∧ m * sz ≤ o ∧ o < n * sz then w'.cell? ⟨b, o, none⟩ else E.mem b o) = some v := hv
      split at hv
      · exact hv
      · exact hR1.mem b o v hv
    · rcases hl : k2.live with _ | _
      · exact BRel.still (E := { E with tok := fun j => if j = i then some ⟨n, sz, some k⟩ else E.tok j }) (i := j) hl rfl (fun _ _ _ _ _ _ _ => rfl) (hR2.blk j k2 hj)
      · exact BRel.mono hle3 hl (hR2.blk j k2 hj)
    · have hne := hR2.tkloc i n sz ⟨n, sz, some k⟩ k j k2 c (by simp [hlt]) (by simp) rfl hj hl hcj
      show (if c.blk = k.blk ∧ m * sz ≤ o ∧ o < n * sz then w'.cell? ⟨c.blk, o, none⟩ else E.mem c.blk o) = none
      rw [if_neg fun e => hne e.1]
      exact (hR2.own j k2 c hj hl hcj).1 o
    · show (if d.blk = k.blk ∧ m * sz ≤ o ∧ o < n * sz then w'.cell? ⟨d.blk, o, none⟩ else E.mem d.blk o) = none
      rcases fixs j n2 s2 t2 hj ht2 with ⟨rfl, rfl, rfl, rfl⟩ | ⟨n1, h1, h2⟩
      · rw [if_neg (by omega)]
        exact (hR2.tkown _ _ _ _ d hj ht2 hd).1 o hoo
      · rw [if_neg fun e => n1 (h.tkinj j n2 s2 t2 d i m sz t k h1 h2 hd hi ht hk e.1)]
        exact (hR2.tkown _ _ _ _ d hj ht2 hd).1 o hoo
  · show (if k.blk = k.blk ∧ m * sz ≤ o ∧ o < n * sz then w'.cell? ⟨k.blk, o, none⟩ else E.mem k.blk o) = cs'[o]?
    rw [if_pos ⟨rfl, h1, h2⟩]
    simp [World.cell?, hc']

/-! ### A value as it reads to others: no room, no capacity -/
mutual
def AV.frz : AV → AV
  | .nilsl => .sl [] 0 none
  | .sl l n _ => .sl (AV.frzL l) n none
  | .gsl l n _ _ => .sl (AV.frzL l) n none
  | .agg l => .agg (AV.frzL l)
  | .tup l => .tup (AV.frzL l)
  | .iface t a => .iface t (AV.frz a)
  | a => a
def AV.frzL : List AV → List AV
  | [] => []
  | a :: l => AV.frz a :: AV.frzL l
end
theorem AV.frzL_eq : ∀ (l : List AV), AV.frzL l = l.map AV.frz
  | [] => rfl
  | a :: l => by simp [AV.frzL, AV.frzL_eq l]
theorem AV.frzL_length (l : List AV) : (AV.frzL l).length = l.length := by simp [AV.frzL_eq]
theorem AV.frz_one (a : AV) : a.frz.one = a.one := by cases a <;> simp [AV.frz, AV.one]
theorem AV.frzL_one (l : List AV) : (AV.frzL l).all AV.one = l.all AV.one := by
  rw [AV.frzL_eq, List.all_map]; congr 1; funext a; exact AV.frz_one a
mutual
theorem VR.frz {E : Env} : ∀ (a : AV) (v : Value), VR E a v → VR E a.frz v
  | .undef, _, _ => by simp [VR, AV.frz]
  | .bool _, _, r => by simpa [VR, AV.frz] using r
  | .anyb, _, r => by simpa [VR, AV.frz] using r
  | .int _ _, _, r => by simpa [VR, AV.frz] using r
  | .str _, _, r => by simpa [VR, AV.frz] using r
  | .nilptr, _, r => by simpa [VR, AV.frz] using r
  | .gptr _ _, _, r => by simpa [VR, AV.frz] using r
  | .ptr _ _, _, r => by simpa [VR, AV.frz] using r
  | .iptr _ _, _, r => by simpa [VR, AV.frz] using r
  | .nilsl, v, r => by
    simp only [VR, AV.frz] at r ⊢
    subst r
    exact ⟨none, 0, by simp⟩
  | .sl l n cap, v, r => by
    simp only [VR, AV.frz] at r ⊢
    obtain ⟨p, c, h1, h2, h3, h4⟩ := r
    exact ⟨p, c, h1, h2, by simp, h4.imp (fun ⟨a1, a2, a3⟩ => ⟨a1, a2, by subst a3; rfl⟩) fun ⟨b, o, h5, h6⟩ => ⟨b, o, h5, VRC.frz l b o h6⟩⟩
  | .lsl _ _ _ _ _, _, r => by simpa [VR, AV.frz] using r
  | .gsl l n i sz, v, r => by
    simp only [VR, AV.frz] at r ⊢
    obtain ⟨p, c, h1, h2, h3, h4, _⟩ := r
    exact ⟨p, c, h1, h2, by simp, h4.imp (fun ⟨a1, a2, a3⟩ => ⟨a1, a2, by subst a3; rfl⟩) fun ⟨b, o, h5, h6⟩ => ⟨b, o, h5, VRC.frz l b o h6⟩⟩
  | .nilmap, _, r => by simpa [VR, AV.frz] using r
  | .lmap _, _, r => by simpa [VR, AV.frz] using r
  | .func _ _, _, r => by simpa [VR, AV.frz] using r
  | .nilfunc, _, r => by simpa [VR, AV.frz] using r
  | .nilif, _, r => by simpa [VR, AV.frz] using r
  | .iface t a, v, r => by
    simp only [VR, AV.frz] at r ⊢
    obtain ⟨x, h1, h2⟩ := r
    exact ⟨x, h1, VR.frz a x h2⟩
  | .agg l, v, r => by
    simp only [VR, AV.frz] at r ⊢
    obtain ⟨vs, h1, h2⟩ := r
    exact ⟨vs, h1, VRL.frz l vs h2⟩
  | .tup l, v, r => by
    simp only [VR, AV.frz] at r ⊢
    obtain ⟨vs, h1, h2⟩ := r
    exact ⟨vs, h1, VRL.frz l vs h2⟩
theorem VRL.frz {E : Env} : ∀ (l : List AV) (vs : List Value), VRL E l vs → VRL E (AV.frzL l) vs
  | [], _, r => by simpa [VRL, AV.frzL] using r
  | a :: l, vs, r => by
    simp only [VRL, AV.frzL] at r ⊢
    obtain ⟨x, xs, h1, h2, h3⟩ := r
    exact ⟨x, xs, h1, VR.frz a x h2, VRL.frz l xs h3⟩
theorem VRC.frz {E : Env} : ∀ (l : List AV) (b o : Nat), VRC E l b o → VRC E (AV.frzL l) b o
  | [], _, _, _ => by simp [VRC, AV.frzL]
  | a :: l, b, o, r => by
    simp only [VRC, AV.frzL] at r ⊢
    obtain ⟨⟨x, h1, h2⟩, h3⟩ := r
    exact ⟨⟨x, h1, VR.frz a x h2⟩, VRC.frz l b (o + 1) h3⟩
end

end Go.Proofs.YtpednpndahgleaaGreatDoor.Av
