/- The abstract values of the walks (first part): what a Go value reads as, over memory that stays (mem) and blocks that the call owns (loc). Plain Lean over the model; no program in sight. -/
import Derived.Calls
import Derived.Orders
set_option linter.unusedSimpArgs false
set_option linter.unusedVariables false
namespace Go.Proofs.YtpednpndahgleaaGreatDoor.Av
open Go

/-- An abstract value. 'sl', 'iptr': memory that nobody writes any more; 'lsl', 'ptr': block i of the call's own list. -/
inductive AV where
  | undef
  | bool (b : Bool)
  | anyb
  | int (k : IntKind) (n : Int)
  | str (l : List UInt8)
  | nilptr
  | gptr (g off : Nat)
  | ptr (i off : Nat)
  | iptr (l : List AV) (off : Nat)
  | nilsl
  | sl (l : List AV) (n : Nat) (cap : Option Nat)
  | lsl (i off len : Nat) (cap : Option Nat) (sz : Nat)
  | gsl (l : List AV) (n i sz : Nat)
  | nilmap
  | lmap (i : Nat)
  | func (f : FuncId) (caps : List AV)
  | nilfunc
  | nilif
  | iface (t : TypeId) (v : AV)
  | agg (l : List AV)
  | tup (l : List AV)
  deriving Inhabited

/-- Where an owned block lies: its number, the first cell that is told of, how many cells the block has. -/
structure Loc where
  blk : Nat
  off : Nat
  size : Nat

/-- A row that grows: how many elements it has, of how many cells, and where there is room behind them (none: nowhere). -/
structure Tok where
  pos : Nat
  sz : Nat
  loc : Option Loc

structure Env where
  mem : Nat → Nat → Option Value
  loc : Nat → Option Loc
  tok : Nat → Option Tok

mutual
def VR (E : Env) : AV → Value → Prop
  | .undef, _ => True
  | .bool b, v => v = .bool b
  | .anyb, v => ∃ b, v = .bool b
  | .int k n, v => v = .int k n
  | .str l, v => v = .string ⟨⟨l⟩⟩
  | .nilptr, v => v = .pointer none
  | .gptr g off, v => v = .pointer (some ⟨g, off, none⟩)
  | .ptr i off, v => ∃ c, E.loc i = some c ∧ v = .pointer (some ⟨c.blk, c.off + off, none⟩)
  | .iptr l off, v => ∃ b o, v = .pointer (some ⟨b, o + off, none⟩) ∧ VRC E l b o
  | .nilsl, v => v = .slice none 0 0
  | .sl l n cap, v => ∃ p c, v = .slice p n c ∧ n ≤ c ∧ (∀ k, cap = some k → c = k) ∧ ((n = 0 ∧ c = 0 ∧ l = []) ∨ ∃ b o, p = some ⟨b, o, none⟩ ∧ VRC E l b o)
  | .lsl i off len cap sz, v => ∃ c rc d, E.loc i = some c ∧ v = .slice (some ⟨c.blk, d, none⟩) len rc ∧ (rc ≠ 0 → d = c.off + off) ∧ len ≤ rc ∧
      (∀ k, cap = some k → rc = k) ∧ c.off + off + rc * sz ≤ c.size
  | .gsl l n i sz, v => ∃ p c, v = .slice p n c ∧ n ≤ c ∧ l.length = n * sz ∧ ((n = 0 ∧ c = 0 ∧ l = []) ∨ ∃ b o, p = some ⟨b, o, none⟩ ∧ VRC E l b o) ∧
      ∃ t, E.tok i = some t ∧ n ≤ t.pos ∧ (n = t.pos → t.sz = sz ∧ (t.loc = none → c = n) ∧ ∀ k, t.loc = some k → p = some ⟨k.blk, 0, none⟩ ∧ c * sz ≤ k.size)
  | .nilmap, v => v = .map none
  | .lmap i, v => ∃ c, E.loc i = some c ∧ v = .map (some c.blk)
  | .func f caps, v => ∃ vs, v = .func (.func f) #[] ⟨vs⟩ ∧ VRL E caps vs
  | .nilfunc, v => v = .nilFunc
  | .nilif, v => v = .nilIface
  | .iface t a, v => ∃ x, v = .iface t x ∧ VR E a x
  | .agg l, v => ∃ vs, v = .agg ⟨vs⟩ ∧ VRL E l vs
  | .tup l, v => ∃ vs, v = .tuple ⟨vs⟩ ∧ VRL E l vs
def VRL (E : Env) : List AV → List Value → Prop
  | [], vs => vs = []
  | a :: l, vs => ∃ x xs, vs = x :: xs ∧ VR E a x ∧ VRL E l xs
def VRC (E : Env) : List AV → Nat → Nat → Prop
  | [], _, _ => True
  | a :: l, b, o => (∃ x, E.mem b o = some x ∧ VR E a x) ∧ VRC E l b (o + 1)
end

/-- E' knows what E knows, and more. -/
structure Env.le (E E' : Env) : Prop where
  mem : ∀ b o v, E.mem b o = some v → E'.mem b o = some v
  loc : ∀ i c, E.loc i = some c → E'.loc i = some c
  tok : ∀ i t, E.tok i = some t → ∃ t', E'.tok i = some t' ∧ (t' = t ∨ t.pos < t'.pos)

theorem Env.le.refl (E : Env) : E.le E := ⟨fun _ _ _ h => h, fun _ _ h => h, fun _ t h => ⟨t, h, .inl rfl⟩⟩
theorem Env.le.trans {A B C : Env} (h : A.le B) (k : B.le C) : A.le C := ⟨fun b o v x => k.mem b o v (h.mem b o v x), fun i c x => k.loc i c (h.loc i c x), fun i t x => by
  obtain ⟨t1, h1, h2⟩ := h.tok i t x
  obtain ⟨t2, h3, h4⟩ := k.tok i t1 h1
  refine ⟨t2, h3, ?_⟩
  rcases h2 with rfl | h2 <;> rcases h4 with rfl | h4
  · exact .inl rfl
  · exact .inr h4
  · exact .inr h2
  · exact .inr (Nat.lt_trans h2 h4)⟩

mutual
theorem VR.mono {E E' : Env} (h : E.le E') : ∀ (a : AV) (v : Value), VR E a v → VR E' a v
  | .undef, _, _ => by simp [VR]
  | .bool _, _, r => by simpa [VR] using r
  | .anyb, _, r => by simpa [VR] using r
  | .int _ _, _, r => by simpa [VR] using r
  | .str _, _, r => by simpa [VR] using r
  | .nilptr, _, r => by simpa [VR] using r
  | .gptr _ _, _, r => by simpa [VR] using r
  | .ptr i off, v, r => by
    simp only [VR] at r ⊢
    obtain ⟨c, h1, h2⟩ := r
    exact ⟨c, h.loc _ _ h1, h2⟩
  | .iptr l off, v, r => by
    simp only [VR] at r ⊢
    obtain ⟨b, o, h1, h2⟩ := r
    exact ⟨b, o, h1, VRC.mono h l b o h2⟩
  | .nilsl, _, r => by simpa [VR] using r
  | .sl l n cap, v, r => by
    simp only [VR] at r ⊢
    obtain ⟨p, c, h1, h2, h3, h4⟩ := r
    exact ⟨p, c, h1, h2, h3, h4.imp id fun ⟨b, o, h5, h6⟩ => ⟨b, o, h5, VRC.mono h l b o h6⟩⟩
  | .gsl l n i sz, v, r => by
    simp only [VR] at r ⊢
    obtain ⟨p, c, h1, h2, h3, h4, t, h5, h6, h7⟩ := r
    obtain ⟨t', h8, h9⟩ := h.tok _ _ h5
    refine ⟨p, c, h1, h2, h3, h4.imp id fun ⟨b, o, h5, h6⟩ => ⟨b, o, h5, VRC.mono h l b o h6⟩, t', h8, ?_⟩
    rcases h9 with rfl | h9
    · exact ⟨h6, h7⟩
    · exact ⟨by omega, fun e => by omega⟩
  | .lsl i off len cap sz, v, r => by
    simp only [VR] at r ⊢
    obtain ⟨c, rc, d, h1, h2⟩ := r
    exact ⟨c, rc, d, h.loc _ _ h1, h2⟩
  | .nilmap, _, r => by simpa [VR] using r
  | .lmap i, v, r => by
    simp only [VR] at r ⊢
    obtain ⟨c, h1, h2⟩ := r
    exact ⟨c, h.loc _ _ h1, h2⟩
  | .func f caps, v, r => by
    simp only [VR] at r ⊢
    obtain ⟨vs, h1, h2⟩ := r
    exact ⟨vs, h1, VRL.mono h caps vs h2⟩
  | .nilfunc, _, r => by simpa [VR] using r
  | .nilif, _, r => by simpa [VR] using r
  | .iface t a, v, r => by
    simp only [VR] at r ⊢
    obtain ⟨x, h1, h2⟩ := r
    exact ⟨x, h1, VR.mono h a x h2⟩
  | .agg l, v, r => by
    simp only [VR] at r ⊢
    obtain ⟨vs, h1, h2⟩ := r
    exact ⟨vs, h1, VRL.mono h l vs h2⟩
  | .tup l, v, r => by
    simp only [VR] at r ⊢
    obtain ⟨vs, h1, h2⟩ := r
    exact ⟨vs, h1, VRL.mono h l vs h2⟩
theorem VRL.mono {E E' : Env} (h : E.le E') : ∀ (l : List AV) (vs : List Value), VRL E l vs → VRL E' l vs
  | [], _, r => by simpa [VRL] using r
  | a :: l, vs, r => by
    simp only [VRL] at r ⊢
    obtain ⟨x, xs, h1, h2, h3⟩ := r
    exact ⟨x, xs, h1, VR.mono h a x h2, VRL.mono h l xs h3⟩
theorem VRC.mono {E E' : Env} (h : E.le E') : ∀ (l : List AV) (b o : Nat), VRC E l b o → VRC E' l b o
  | [], _, _, _ => by simp [VRC]
  | a :: l, b, o, r => by
    simp only [VRC] at r ⊢
    obtain ⟨⟨x, h1, h2⟩, h3⟩ := r
    exact ⟨⟨x, h.mem _ _ _ h1, VR.mono h a x h2⟩, VRC.mono h l b (o + 1) h3⟩
end

theorem VRL.length {E : Env} : ∀ {l : List AV} {vs : List Value}, VRL E l vs → vs.length = l.length
  | [], _, r => by simp only [VRL] at r; subst r; rfl
  | a :: l, vs, r => by
    simp only [VRL] at r
    obtain ⟨x, xs, rfl, _, h3⟩ := r
    simp [VRL.length h3]

theorem VRL.get {E : Env} : ∀ {l : List AV} {vs : List Value} {i : Nat} {a : AV}, VRL E l vs → l[i]? = some a → ∃ v, vs[i]? = some v ∧ VR E a v
  | [], _, _, _, _, h => by simp at h
  | a :: l, vs, i, x, r, h => by
    simp only [VRL] at r
    obtain ⟨y, ys, rfl, h2, h3⟩ := r
    cases i with
    | zero => simp at h; subst h; exact ⟨y, by simp, h2⟩
    | succ i => simp at h; simpa using VRL.get h3 h

theorem VRL.of_get {E : Env} : ∀ {l : List AV} {vs : List Value}, vs.length = l.length → (∀ (i : Nat) (a : AV), l[i]? = some a → ∃ v, vs[i]? = some v ∧ VR E a v) → VRL E l vs
  | [], vs, hl, _ => by
    have : vs = [] := by cases vs <;> simp_all
    simp [VRL, this]
  | a :: l, vs, hl, h => by
    cases vs with
    | nil => simp at hl
    | cons x xs =>
      simp only [VRL]
      refine ⟨x, xs, rfl, ?_, VRL.of_get (by simpa using hl) fun i b hb => by simpa using h (i + 1) b (by simpa using hb)⟩
      obtain ⟨v, h1, h2⟩ := h 0 a (by simp)
      simp at h1; subst h1; exact h2

theorem VRC.get {E : Env} : ∀ {l : List AV} {b o i : Nat} {a : AV}, VRC E l b o → l[i]? = some a → ∃ v, E.mem b (o + i) = some v ∧ VR E a v
  | [], _, _, _, _, _, h => by simp at h
  | a :: l, b, o, i, x, r, h => by
    simp only [VRC] at r
    obtain ⟨⟨y, h1, h2⟩, h3⟩ := r
    cases i with
    | zero => simp at h; subst h; exact ⟨y, by simpa using h1, h2⟩
    | succ i =>
      simp at h
      obtain ⟨v, h4, h5⟩ := VRC.get h3 h
      exact ⟨v, by rw [show o + (i + 1) = o + 1 + i by omega]; exact h4, h5⟩

theorem VRC.of_get {E : Env} : ∀ {l : List AV} {b o : Nat}, (∀ (i : Nat) (a : AV), l[i]? = some a → ∃ v, E.mem b (o + i) = some v ∧ VR E a v) → VRC E l b o
  | [], _, _, _ => by simp [VRC]
  | a :: l, b, o, h => by
    simp only [VRC]
    refine ⟨by simpa using h 0 a (by simp), VRC.of_get fun i x hx => ?_⟩
    have := h (i + 1) x (by simpa using hx)
    rwa [show o + (i + 1) = o + 1 + i by omega] at this

theorem VRC.drop {E : Env} {l : List AV} {b o : Nat} (n : Nat) (h : VRC E l b o) : VRC E (l.drop n) b (o + n) :=
  VRC.of_get fun i a ha => by
    rw [List.getElem?_drop] at ha
    have := h.get ha
    rwa [← Nat.add_assoc] at this

theorem VRC.take {E : Env} {l : List AV} {b o : Nat} (n : Nat) (h : VRC E l b o) : VRC E (l.take n) b o :=
  VRC.of_get fun i a ha => by
    rw [List.getElem?_take] at ha
    split at ha
    · exact h.get ha
    · simp at ha

theorem VRL.append {E : Env} : ∀ {l m : List AV} {vs ws : List Value}, VRL E l vs → VRL E m ws → VRL E (l ++ m) (vs ++ ws)
  | [], _, _, _, h, k => by simp only [VRL] at h; subst h; simpa using k
  | a :: l, m, vs, ws, h, k => by
    simp only [VRL] at h
    obtain ⟨x, xs, rfl, h2, h3⟩ := h
    simp only [List.cons_append, VRL]
    exact ⟨x, xs ++ ws, rfl, h2, VRL.append h3 k⟩

/-- A value of one cell. -/
def AV.one : AV → Bool
  | .undef | .agg _ | .tup _ => false
  | _ => true
def AV.cells : AV → List AV
  | .agg l => l
  | a => [a]

def Value.one : Value → Bool
  | .agg _ | .tuple _ => false
  | _ => true

theorem VR.one {E : Env} {a : AV} {v : Value} (h : VR E a v) (ha : a.one = true) : Value.one v = true := by
  cases a <;> simp only [AV.one, Bool.false_eq_true] at ha <;> simp only [VR] at h
  all_goals first
    | (subst h; rfl)
    | (obtain ⟨_, _, h, _⟩ := h; subst h; rfl)
    | (obtain ⟨_, h, _⟩ := h; subst h; rfl)
    | (obtain ⟨_, _, _, h, _⟩ := h; subst h; rfl)
    | (obtain ⟨_, h⟩ := h; subst h; rfl)
    | (obtain ⟨_, _, h⟩ := h; subst h; rfl)
    | (obtain ⟨_, _, _, _, h, _⟩ := h; subst h; rfl)
    | skip

end Go.Proofs.YtpednpndahgleaaGreatDoor.Av
