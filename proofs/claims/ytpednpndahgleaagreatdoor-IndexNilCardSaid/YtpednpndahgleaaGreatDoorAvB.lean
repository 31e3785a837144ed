/- Operations over abstract values: what each comes to, and that the model's operation does just that. No program in sight. -/
import Derived.Test.YtpednpndahgleaaGreatDoorAvA
import Derived.WalkKit
set_option linter.unusedSimpArgs false
set_option linter.unusedVariables false
namespace Go.Proofs.YtpednpndahgleaaGreatDoor.Av
open Go

inductive Opd where
  | tmp (t : Nat)
  | av (a : AV)
  deriving Inhabited

def lowC1 : Value → Option AV
  | .bool b => some (.bool b)
  | .int k n => some (.int k n)
  | .string s => some (.str s.data.toList)
  | .pointer none => some .nilptr
  | .slice none 0 0 => some (.sl [] 0 (some 0))
  | .map none => some .nilmap
  | .nilFunc => some .nilfunc
  | .nilIface => some .nilif
  | .func (.func f) ⟨[]⟩ ⟨[]⟩ => some (.func f [])
  | _ => none
def lowCs : List Value → Option (List AV)
  | [] => some []
  | v :: vs => match lowC1 v, lowCs vs with
    | some a, some l => some (a :: l)
    | _, _ => none
def lowC : Value → Option AV
  | .agg ⟨vs⟩ => (lowCs vs).map .agg
  | .tuple ⟨[]⟩ => some (.tup [])
  | v => lowC1 v
/-- A value's cells. -/
def lowZ : Value → Option (List AV)
  | .agg ⟨vs⟩ => lowCs vs
  | v => (lowC1 v).map ([·])

theorem lowC1_sound {E : Env} {v : Value} {a : AV} (h : lowC1 v = some a) : VR E a v ∧ a.one = true := by
  unfold lowC1 at h
  split at h <;> simp at h <;> subst h <;> simp [VR, VRL, AV.one]
  exact ⟨none, 0, by simp⟩

theorem lowCs_sound {E : Env} : ∀ {vs : List Value} {l : List AV}, lowCs vs = some l → VRL E l vs ∧ ∀ a ∈ l, AV.one a = true
  | [], l, h => by simp [lowCs] at h; subst h; simp [VRL]
  | v :: vs, l, h => by
    simp only [lowCs] at h
    split at h <;> simp at h
    rename_i a m h1 h2
    subst h
    have := lowCs_sound (E := E) h2
    exact ⟨⟨v, vs, rfl, (lowC1_sound h1).1, this.1⟩, by simpa using ⟨(lowC1_sound (E := E) h1).2, this.2⟩⟩

theorem lowC_sound {E : Env} {v : Value} {a : AV} (h : lowC v = some a) : VR E a v := by
  unfold lowC at h
  split at h
  · simp only [Option.map_eq_some_iff] at h
    obtain ⟨l, h1, rfl⟩ := h
    simp only [VR]
    exact ⟨_, rfl, (lowCs_sound h1).1⟩
  · simp at h; subst h; simp [VR, VRL]
  · exact (lowC1_sound h).1

theorem lowZ_sound {E : Env} {v : Value} {l : List AV} (h : lowZ v = some l) : VRL E l v.cells.toList ∧ ∀ a ∈ l, AV.one a = true := by
  unfold lowZ at h
  split at h
  · exact lowCs_sound h
  · simp only [Option.map_eq_some_iff] at h
    obtain ⟨a, h1, rfl⟩ := h
    have := lowC1_sound (E := E) h1
    have hv : v.cells = #[v] := by cases v <;> first | rfl | simp [lowC1] at h1
    rw [hv]
    exact ⟨⟨v, [], rfl, this.1, rfl⟩, by simpa using this.2⟩

def lowX : Operand → Option Opd
  | .tmp t => some (.tmp t)
  | .const v => (lowC v).map .av
  | .func f => some (.av (.func f []))
  | .global g => some (.av (.gptr g 0))

def evX (T : Tm) : Opd → Option AV
  | .tmp t => look T t
  | .av a => some a

theorem evX_sound {E : Env} {T : Tm} {a : Act} {x : Operand} {y : Opd} {v : AV} (h : lowX x = some y) (hv : evX T y = some v) (hT : TR E T a) : VR E v (a.eval x) := by
  unfold lowX at h
  split at h <;> simp at h
  · subst h; exact hT _ _ hv
  · obtain ⟨u, h1, rfl⟩ := h
    simp [evX] at hv; subst hv
    exact lowC_sound h1
  · subst h; simp [evX] at hv; subst hv
    simp [VR, VRL, Act.eval]
  · subst h; simp [evX] at hv; subst hv
    simp [VR, VRL, Act.eval]

/-- A value's cells, where they are known. -/
def AV.cells? : AV → Option (List AV)
  | .agg l => some l
  | .undef | .tup _ => none
  | a => some [a]

theorem cells?_sound {E : Env} {a : AV} {v : Value} {l : List AV} (h : a.cells? = some l) (hv : VR E a v) : VRL E l v.cells.toList := by
  rcases ho : a.one with _ | _
  · cases a <;> simp [AV.one] at ho <;> simp [AV.cells?] at h
    subst h
    simp only [VR] at hv
    obtain ⟨vs, rfl, h2⟩ := hv
    exact h2
  · have hl : l = [a] := by cases a <;> simp [AV.one] at ho <;> simp [AV.cells?] at h <;> exact h.symm
    subst hl
    have hone := hv.one ho
    have : v.cells = #[v] := by cases v <;> first | rfl | simp [Value.one] at hone
    rw [this]
    exact ⟨v, [], rfl, hv, rfl⟩

/-! ### Reading and writing -/

def splice (l : List AV) (off : Nat) (vals : List AV) : List AV := l.take off ++ vals ++ l.drop (off + vals.length)

/-- A package-level variable's place, as memory that stays. -/
def deg : AV → AV
  | .gptr g off => match globOf g with
    | some l => .iptr l off
    | none => .gptr g off
  | a => a
theorem deg_sound {w0 : World} {S0 : Nat → Prop} {E : Env} {L : List Blk} {w : World} (h : Rel w0 S0 E L w) {a : AV} {v : Value} (hv : VR E a v) : VR E (deg a) v := by
  cases a
  case gptr g off =>
    simp only [deg]
    split
    · rename_i l hl
      simp only [VR] at hv ⊢
      subst hv
      exact ⟨g, 0, by simp, h.glob.env (globOf_mem hl)⟩
    · exact hv
  all_goals exact hv
def evD (T : Tm) (x : Opd) : Option AV := (evX T x).map deg
theorem evD_sound {w0 : World} {S0 : Nat → Prop} {E : Env} {L : List Blk} {w : World} (h : Rel w0 S0 E L w) {T : Tm} {a : Act} {x : Operand} {y : Opd} {v : AV} (hl : lowX x = some y) (hv : evD T y = some v) (hT : TR E T a) : VR E v (a.eval x) := by
  simp only [evD, Option.map_eq_some_iff] at hv
  obtain ⟨u, h1, rfl⟩ := hv
  exact deg_sound h (evX_sound hl h1 hT)

/-- The cells behind a pointer, from its place on. -/
def row (L : List Blk) : AV → Option (List AV × Nat)
  | .ptr i off => match L[i]? with
    | some (.cells l) => some (l, off)
    | _ => none
  | .iptr l off => some (l, off)
  | _ => none

theorem row_sound {w0 : World} {S0 : Nat → Prop} {E : Env} {L : List Blk} {w : World} (h : Rel w0 S0 E L w) {p : AV} {v : Value} {l : List AV} {off : Nat} (hr : row L p = some (l, off)) (hv : VR E p v) :
    ∃ b o, v = .pointer (some ⟨b, o + off, none⟩) ∧ ∀ (j : Nat) (a : AV), l[j]? = some a → ∃ x, w.cell? ⟨b, o + j, none⟩ = some x ∧ VR E a x := by
  unfold row at hr
  split at hr
  · rename_i i off'
    split at hr
    · rename_i l' hL
      simp at hr; obtain ⟨rfl, rfl⟩ := hr
      simp only [VR] at hv
      obtain ⟨c, hc, rfl⟩ := hv
      obtain ⟨c', cs, ty, fr, h1, h2, h3, h4, h5, h6⟩ := h.blk i _ hL
      rw [hc] at h1; cases h1
      refine ⟨c.blk, c.off, rfl, fun j a ha => ?_⟩
      obtain ⟨x, h7, h8⟩ := h5 j a ha
      exact ⟨x, by simp [World.cell?, h2, h7], h8⟩
    · cases hr
  · simp at hr; obtain ⟨rfl, rfl⟩ := hr
    simp only [VR] at hv
    obtain ⟨b, o, rfl, hc⟩ := hv
    refine ⟨b, o, rfl, fun j a ha => ?_⟩
    obtain ⟨x, h1, h2⟩ := hc.get ha
    exact ⟨x, h.mem _ _ _ h1, h2⟩
  · cases hr

theorem Addr.add_mk (b o n : Nat) : (Addr.mk b o none).add n = ⟨b, o + n, none⟩ := by
  unfold Addr.add
  split
  · rename_i h; subst h; rfl
  · rfl

/-- Cells that are there, as a list. -/
theorem cells_list {E : Env} {w : World} {b o : Nat} : ∀ {l : List AV}, (∀ (j : Nat) (a : AV), l[j]? = some a → ∃ x, w.cell? ⟨b, o + j, none⟩ = some x ∧ VR E a x) →
    ∃ cs : List Value, VRL E l cs ∧ ∀ (j : Nat) (v : Value), cs[j]? = some v → w.cell? ⟨b, o + j, none⟩ = some v
  | [], _ => ⟨[], by simp [VRL], by simp⟩
  | a :: l, h => by
    obtain ⟨x, h1, h2⟩ := h 0 a (by simp)
    obtain ⟨cs, h3, h4⟩ := cells_list (b := b) (o := o + 1) (l := l) fun j a ha => by
      have := h (j + 1) a (by simpa using ha)
      rwa [show o + (j + 1) = o + 1 + j by omega] at this
    refine ⟨x :: cs, ⟨x, cs, rfl, h2, h3⟩, fun j v hv => ?_⟩
    cases j with
    | zero => simp at hv; subst hv; exact h1
    | succ j => rw [show o + (j + 1) = o + 1 + j by omega]; exact h4 j v (by simpa using hv)

theorem loadCells_ok {P : Program} {E : Env} {w : World} {b o : Nat} {l : List AV} (h : ∀ (j : Nat) (a : AV), l[j]? = some a → ∃ x, w.cell? ⟨b, o + j, none⟩ = some x ∧ VR E a x) :
    ∃ cs : List Value, VRL E l cs ∧ (loadCells ⟨b, o, none⟩ l.length).run P w = .ok cs.toArray w := by
  obtain ⟨cs, h1, h2⟩ := cells_list h
  refine ⟨cs, h1, ?_⟩
  rw [← h1.length]
  exact run_loadCells_list w _ cs fun j v hv => by rw [Addr.add_mk]; exact h2 j v hv

theorem storeCells_ok {P : Program} {b : Nat} {ty : TypeId} {fr : Nat × Nat} : ∀ (vs : List Value) (w : World) (cs : Array Value) (o i : Nat), w.heap[b]? = some (.cells cs ty fr) → (∀ v ∈ vs, Value.one v = true) →
    o + i + vs.length ≤ cs.size → (∀ k, o + i ≤ k → k < o + i + vs.length → ¬ (fr.1 ≤ k ∧ k < fr.2)) →
    ∃ w' cs', (storeCells ⟨b, o, none⟩ vs i).run P w = .ok () w' ∧ w'.heap.size = w.heap.size ∧ (∀ k, k ≠ b → w'.heap[k]? = w.heap[k]?) ∧ w'.os = w.os ∧ w'.tape = w.tape ∧ w'.output = w.output ∧
      w'.heap[b]? = some (.cells cs' ty fr) ∧ cs'.size = cs.size ∧ ∀ k, cs'[k]? = if o + i ≤ k ∧ k < o + i + vs.length then vs[k - (o + i)]? else cs[k]?
  | [], w, cs, o, i, hb, _, _, _ => ⟨w, cs, by simp [storeCells], rfl, fun _ _ => rfl, rfl, rfl, rfl, hb, rfl, fun k => by rw [if_neg (by simp)]⟩
  | v :: vs, w, cs, o, i, hb, hone, hlen, hfr => by
    simp only [List.length_cons] at hlen hfr
    have hlt : o + i < cs.size := by omega
    have hcell : w.cell? ⟨b, o + i, none⟩ = some cs[o + i] := by simp [World.cell?, hb]
    have hfz : w.frozen? ⟨b, o + i, none⟩ = false := by
      have := hfr (o + i) (Nat.le_refl _) (by omega)
      simp [World.frozen?, hb]; omega
    have h1 : v.oneCell' = true := by
      have := hone v (by simp)
      cases v <;> simp_all [Value.one, Value.oneCell']
    have hrun : (store ((⟨b, o, none⟩ : Addr).add i) v).run P w = .ok () (w.setCell ⟨b, o + i, none⟩ v) := by
      rw [run_store P w _ v .plain h1, Addr.add_mk, hcell]
      simp [hfz]
    have hb' : (w.setCell ⟨b, o + i, none⟩ v).heap[b]? = some (.cells (cs.setIfInBounds (o + i) v) ty fr) := by
      simp [World.setCell, Array.getElem?_modify, hb]
    obtain ⟨w', cs', r1, r2, r3, r4, r5, r6, r7, r8, r9⟩ := storeCells_ok (P := P) vs (w.setCell ⟨b, o + i, none⟩ v) (cs.setIfInBounds (o + i) v) o (i + 1) hb' (fun x hx => hone x (by simp [hx])) (by simp; omega) (fun k h2 h3 => hfr k (by omega) (by omega))
    refine ⟨w', cs', ?_, ?_, fun k hk => ?_, r4, r5, r6, r7, by simpa using r8, fun k => ?_⟩
    · simp only [storeCells, Sem.run_bind, hrun, Result.andThen_ok]
      exact r1
    · simpa [World.setCell] using r2
    · rw [r3 k hk]
      simp only [World.setCell, Array.getElem?_modify]
      rw [if_neg fun e => hk e.symm]
    · rw [r9 k]
      simp only [List.length_cons]
      by_cases h2 : o + (i + 1) ≤ k ∧ k < o + (i + 1) + vs.length
      · rw [if_pos h2, if_pos (by omega), show k - (o + i) = (k - (o + (i + 1))) + 1 by omega]
        simp
      · rw [if_neg h2]
        by_cases h3 : k = o + i
        · subst h3
          rw [if_pos (by omega)]
          simp [hlt]
        · rw [if_neg (by omega), Array.getElem?_setIfInBounds_ne (by omega)]

theorem splice_get {l vals : List AV} {off k : Nat} (h : off + vals.length ≤ l.length) : (splice l off vals)[k]? = if off ≤ k ∧ k < off + vals.length then vals[k - off]? else l[k]? := by
  simp only [splice, List.append_assoc]
  by_cases h1 : k < off
  · rw [List.getElem?_append_left (by simp; omega), if_neg (by omega), List.getElem?_take_of_lt h1]
  · rw [List.getElem?_append_right (by simp; omega)]
    have : (l.take off).length = off := by simp; omega
    rw [this]
    by_cases h2 : k < off + vals.length
    · rw [List.getElem?_append_left (by omega), if_pos ⟨by omega, h2⟩]
    · rw [List.getElem?_append_right (by omega), if_neg (by omega), List.getElem?_drop]
      congr 1; omega

theorem splice_length {l vals : List AV} {off : Nat} (h : off + vals.length ≤ l.length) : (splice l off vals).length = l.length := by
  simp [splice]; omega

/-- A row of the call's own is written. -/
theorem store_ok {P : Program} {w0 : World} {S0 : Nat → Prop} {E : Env} {L : List Blk} {w : World} (h : Rel w0 S0 E L w) {i : Nat} {l : List AV} {c : Loc} (hi : L[i]? = some (.cells l)) (hc : E.loc i = some c)
    {off : Nat} {vals : List AV} {vs : List Value} (hv : VRL E vals vs) (hone : ∀ a ∈ vals, AV.one a = true) (hlen : off + vals.length ≤ l.length) :
    ∃ w', (storeCells ⟨c.blk, c.off + off, none⟩ vs).run P w = .ok () w' ∧ Rel w0 S0 E (L.set i (.cells (splice l off vals))) w' := by
  obtain ⟨c', cs, ty, fr, h1, h2, h3, h4, h5, h6⟩ := h.blk i _ hi
  rw [hc] at h1; cases h1
  have hl := hv.length
  obtain ⟨w', cs', r1, r2, r3, r4, r5, r6, r7, r8, r9⟩ := storeCells_ok (P := P) vs w cs (c.off + off) 0 h2 (fun x hx => by
    obtain ⟨j, hj⟩ := List.mem_iff_getElem?.1 hx
    have hj' : j < vals.length := by have := (List.getElem?_eq_some_iff.1 hj).1; omega
    obtain ⟨y, h7, h8⟩ := hv.get (List.getElem?_eq_getElem hj')
    rw [hj] at h7; cases h7
    exact h8.one (hone _ (List.getElem_mem hj'))) (by omega) (fun k h7 h8 => h6 k (by omega) (by omega))
  refine ⟨w', r1, h.turn hi rfl hc r2 r3 r4 r5 r6 ?_ (by simp)⟩
  refine ⟨c, cs', ty, fr, hc, r7, by omega, by rw [splice_length hlen]; exact h4, fun j a ha => ?_, h6⟩
  rw [splice_get hlen] at ha
  rw [r9]
  by_cases h7 : off ≤ j ∧ j < off + vals.length
  · rw [if_pos h7] at ha
    rw [if_pos (by omega)]
    obtain ⟨x, h8, h9⟩ := hv.get ha
    exact ⟨x, by rw [← h8]; congr 1; omega, h9⟩
  · rw [if_neg h7] at ha
    rw [if_neg (by omega)]
    exact h5 j a ha

end Go.Proofs.YtpednpndahgleaaGreatDoor.Av
