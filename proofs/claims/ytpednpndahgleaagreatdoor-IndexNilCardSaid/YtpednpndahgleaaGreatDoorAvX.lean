/- The walk of a region in any order, with effects. No program in sight. -/
import Derived.Test.YtpednpndahgleaaGreatDoorAvW
set_option linter.unusedSimpArgs false
set_option linter.unusedVariables false
namespace Go.Proofs.YtpednpndahgleaaGreatDoor.Av
open Go

/-- What an operation of such a region is: it looks at no block; it looks (at the blocks as they are, as they were n effects ago, and as they will be f effects on); it changes them. -/
inductive Kd where
  | pure
  | read (n f : Nat)
  | eff
  deriving Inhabited, DecidableEq

abbrev Kept := Nat × LOper × Tm × AV
def Rechk (P : Program) (L : List Blk) : List Kept → Prop
  | [] => True
  | (_, o, T, v) :: h => AQ P o T L v ∧ Rechk P L h
def dec1 : List Kept → List Kept
  | [] => []
  | (0, _) :: h => dec1 h
  | (1, _) :: h => dec1 h
  | (n + 2, y) :: h => (n + 1, y) :: dec1 h
def kept (f : Nat) (o : LOper) (T : Tm) (v : AV) (H : List Kept) : List Kept :=
  match f with
  | 0 => H
  | f + 1 => (f + 1, o, T, v) :: H

def AG (P : Program) (K : Tm → List Blk → Prop) : List (LOper × Kd) → List (List Blk) → List Kept → Tm → Prop
  | [], L :: _, _, T => K T L
  | (o, .pure) :: r, L :: Ls, H, T => ∃ v, AQ P o T L v ∧ AG P K r (L :: Ls) H (putT o.dst v T)
  | (o, .read n f) :: r, L :: Ls, H, T => ∃ v, (∀ L' ∈ (L :: Ls).take (n + 1), AQ P o T L' v) ∧ AG P K r (L :: Ls) (kept f o T v H) (putT o.dst v T)
  | (o, .eff) :: r, L :: Ls, H, T => ∃ v L2, EQ P o T L v L2 ∧ Rechk P L2 H ∧ AG P K r (L2 :: L :: Ls) (dec1 H) (putT o.dst v T)
  | _, [], _, _ => False

def neff : List (LOper × Kd) → Nat
  | [] => 0
  | (_, .eff) :: r => neff r + 1
  | _ :: r => neff r

/-- The blocks behind m effects. -/
def mem (Ns : List (List Blk)) (m : Nat) : List Blk := Ns.reverse.getD m []
theorem mem_old {X Ls : List (List Blk)} {m : Nat} (h : m < Ls.length) : mem (X ++ Ls) m = Ls.getD (Ls.length - 1 - m) [] := by
  simp only [mem, List.reverse_append, List.getD_eq_getElem?_getD]
  rw [List.getElem?_append_left (by simpa using h), List.getElem?_reverse h]

theorem Rechk_mem {P : Program} {L : List Blk} : ∀ {H : List Kept}, Rechk P L H → ∀ y ∈ H, AQ P y.2.1 y.2.2.1 L y.2.2.2
  | [], _, y, hy => by cases hy
  | (f, o, T, v) :: h, hr, y, hy => by
    rcases List.mem_cons.1 hy with rfl | hy
    · exact hr.1
    · exact Rechk_mem hr.2 y hy
theorem dec1_mem : ∀ {H : List Kept} {y : Kept}, y ∈ H → 1 < y.1 → (y.1 - 1, y.2) ∈ dec1 H
  | [], y, hy, _ => by cases hy
  | (0, z) :: h, y, hy, h1 => by
    rcases List.mem_cons.1 hy with rfl | hy
    · simp at h1
    · show (y.1 - 1, y.2) ∈ dec1 h
      exact dec1_mem hy h1
  | (1, z) :: h, y, hy, h1 => by
    rcases List.mem_cons.1 hy with rfl | hy
    · simp at h1
    · show (y.1 - 1, y.2) ∈ dec1 h
      exact dec1_mem hy h1
  | (n + 2, z) :: h, y, hy, h1 => by
    rcases List.mem_cons.1 hy with rfl | hy
    · simp [dec1]
    · exact List.mem_cons_of_mem _ (dec1_mem hy h1)

/-- What the walk shows of one operation. -/
def Shown (P : Program) (o : LOper) (T : Tm) (Ns : List (List Blk)) (v : AV) (c : Nat) : Kd → Prop
  | .pure => AQ P o T (mem Ns c) v
  | .read n f => ∀ m, c - n ≤ m → m ≤ c + f → m < Ns.length → AQ P o T (mem Ns m) v
  | .eff => EQ P o T (mem Ns c) v (mem Ns (c + 1))

theorem AG_trace {P : Program} {K : Tm → List Blk → Prop} : ∀ (qk : List (LOper × Kd)) (Ls : List (List Blk)) (H : List Kept) (T : Tm) (k : Nat), AG P K qk Ls H T →
    ∃ (tr : List AV) (X : List (List Blk)), tr.length = qk.length ∧ X.length = neff qk ∧
      (∀ y ∈ H, ∀ m, Ls.length ≤ m → m < Ls.length + y.1 → m < (X ++ Ls).length → AQ P y.2.1 y.2.2.1 (mem (X ++ Ls) m) y.2.2.2) ∧
      (∀ i o kd v, qk[i]? = some (o, kd) → tr[i]? = some v → Shown P o (TL T (qk.map (·.1)) tr k fun j => decide (j < k + i)) (X ++ Ls) v (Ls.length - 1 + neff (qk.take i)) kd) ∧
      K (TL T (qk.map (·.1)) tr k fun _ => true) (mem (X ++ Ls) ((X ++ Ls).length - 1)) := by
  intro qk
  induction qk with
  | nil =>
    intro Ls H T k h
    cases Ls with
    | nil => exact h.elim
    | cons L Ls =>
      refine ⟨[], [], rfl, rfl, fun y _ m h1 _ h3 => ?_, fun i o kd v hi => by simp at hi, ?_⟩
      · simp only [List.nil_append] at h3; omega
      · rw [List.nil_append, ← List.nil_append (L :: Ls), mem_old (by simp)]
        have h' : K T L := h
        simpa [TL] using h'
  | cons q qk ih =>
    intro Ls H T k h
    cases Ls with
    | nil => rcases q with ⟨o, _ | _ | _⟩ <;> exact h.elim
    | cons L Ls =>
      obtain ⟨o, kd⟩ := q
      have tl0 : ∀ (v : AV) (tr : List AV), TL T (((o, kd) :: qk).map (·.1)) (v :: tr) k (fun j => decide (j < k + 0)) = T := fun v tr => by
        have e : TL T (((o, kd) :: qk).map (·.1)) (v :: tr) k (fun j => decide (j < k + 0)) = TL T (((o, kd) :: qk).map (·.1)) (v :: tr) k (fun _ => false) := TL_ext fun j _ => by simp
        rw [e]
        exact TL_false _ _ _ _
      have tls : ∀ (v : AV) (tr : List AV) (i : Nat), TL T (((o, kd) :: qk).map (·.1)) (v :: tr) k (fun j => decide (j < k + (i + 1))) = TL (putT o.dst v T) (qk.map (·.1)) tr (k + 1) (fun j => decide (j < k + 1 + i)) := fun v tr i => by
        simp only [List.map_cons, TL]
        rw [if_pos (by simp)]
        exact TL_ext fun j _ => by congr 1; simp; omega
      have tlt : ∀ (v : AV) (tr : List AV), TL T (((o, kd) :: qk).map (·.1)) (v :: tr) k (fun _ => true) = TL (putT o.dst v T) (qk.map (·.1)) tr (k + 1) (fun _ => true) := fun v tr => by
        simp only [List.map_cons, TL, if_true]
      cases kd with
      | pure =>
        obtain ⟨v, h1, h2⟩ := h
        obtain ⟨tr, X, g1, g2, g3, g4, g5⟩ := ih _ _ _ (k + 1) h2
        refine ⟨v :: tr, X, by simp [g1], g2, g3, fun i p kd u hi hu => ?_, by rw [tlt]; exact g5⟩
        cases i with
        | zero =>
          simp only [List.getElem?_cons_zero, Option.some.injEq, Prod.mk.injEq] at hi hu
          obtain ⟨rfl, rfl⟩ := hi; subst hu
          rw [tl0]
          simp only [List.take_zero, neff, Nat.add_zero, Shown]
          rw [mem_old (by simp)]
          simpa using h1
        | succ i =>
          rw [tls]
          exact g4 i p kd u (by simpa using hi) (by simpa using hu)
      | read n f =>
        obtain ⟨v, h1, h2⟩ := h
        obtain ⟨tr, X, g1, g2, g3, g4, g5⟩ := ih _ _ _ (k + 1) h2
        have hk : ∀ y ∈ H, y ∈ kept f o T v H := fun y hy => by
          unfold kept; split
          · exact hy
          · exact List.mem_cons_of_mem _ hy
        refine ⟨v :: tr, X, by simp [g1], g2, fun y hy => g3 y (hk y hy), fun i p kd u hi hu => ?_, by rw [tlt]; exact g5⟩
        cases i with
        | zero =>
          simp only [List.getElem?_cons_zero, Option.some.injEq, Prod.mk.injEq] at hi hu
          obtain ⟨rfl, rfl⟩ := hi; subst hu
          rw [tl0]
          simp only [List.take_zero, neff, Nat.add_zero, Shown]
          intro m m1 m2 m3
          rcases Nat.lt_or_ge m (L :: Ls).length with m4 | m4
          · rw [mem_old m4]
            refine h1 _ ?_
            have m5 : (L :: Ls).length - 1 - m < (L :: Ls).length := by omega
            rw [List.getD_eq_getElem?_getD, List.getElem?_eq_getElem m5, Option.getD_some]
            rw [List.mem_take_iff_getElem]
            refine ⟨(L :: Ls).length - 1 - m, ?_, rfl⟩
            simp only [List.length_cons] at m1 m4 m5 ⊢
            omega
          · cases f with
            | zero => simp only [List.length_cons] at m2 m4; omega
            | succ f => exact g3 (f + 1, o, T, v) (by simp [kept]) m m4 (by simp only [List.length_cons] at m2 m4 ⊢; omega) m3
        | succ i =>
          rw [tls]
          exact g4 i p kd u (by simpa using hi) (by simpa using hu)
      | eff =>
        obtain ⟨v, L2, h1, hr, h2⟩ := h
        obtain ⟨tr, X, g1, g2, g3, g4, g5⟩ := ih _ _ _ (k + 1) h2
        have e : (X ++ [L2]) ++ (L :: Ls) = X ++ (L2 :: L :: Ls) := by simp
        refine ⟨v :: tr, X ++ [L2], by simp [g1], by simp [neff, g2], fun y hy m m1 m2 m3 => ?_, fun i p kd u hi hu => ?_, by rw [tlt, e]; exact g5⟩
        · rw [e] at m3 ⊢
          rcases Nat.eq_or_lt_of_le m1 with m4 | m4
          · subst m4
            rw [mem_old (by simp)]
            have := Rechk_mem hr y hy
            simpa using this
          · exact g3 _ (dec1_mem hy (by omega)) m (by simp only [List.length_cons] at m4 ⊢; omega) (by simp only [List.length_cons] at m2 ⊢; omega) m3
        rw [e]
        cases i with
        | zero =>
          simp only [List.getElem?_cons_zero, Option.some.injEq, Prod.mk.injEq] at hi hu
          obtain ⟨rfl, rfl⟩ := hi; subst hu
          rw [tl0]
          simp only [List.take_zero, neff, Nat.add_zero, Shown]
          rw [mem_old (by simp only [List.length_cons]; omega), mem_old (by simp only [List.length_cons]; omega)]
          simpa using h1
        | succ i =>
          rw [tls]
          have := g4 i p kd u (by simpa using hi) (by simpa using hu)
          have e2 : (L2 :: L :: Ls).length - 1 + neff (qk.take i) = (L :: Ls).length - 1 + neff (((o, Kd.eff) :: qk).take (i + 1)) := by
            simp only [List.length_cons, List.take_succ_cons, neff]; omega
          rw [e2] at this
          exact this

/-- Operations that look at no block. -/
def LOp.pureB : LOp → Bool
  | .mv _ | .pick .. | .build .. | .bin .. | .un .. | .faddr .. | .extract .. | .mkfn .. | .conv .. | .sconv .. | .eqk .. => true
  | _ => false

theorem pure_AQ {P : Program} {o : LOper} {T : Tm} {L L' : List Blk} {v : AV} (hp : o.op.pureB = true) (h : AQ P o T L v) : AQ P o T L' v := by
  have key : ∀ {c : Prop} {av : AV} {L2 : List Blk}, evalOp T L o.op = some (c, av, L2) → evalOp T L' o.op = some (c, av, L') := fun {c av L2} he => by
    have e : evalOp T L' o.op = (evalOp T L o.op).map fun x => (x.1, x.2.1, L') := by
      obtain ⟨d, op, g⟩ := o
      cases op <;> simp only [LOp.pureB, Bool.false_eq_true] at hp <;> simp only [evalOp] <;> (repeat' split) <;> simp [Option.map_map, Function.comp_def]
    rw [e, he]; rfl
  have hv : AQv P o T L v → AQv P o T L' v := fun hv => by
    unfold AQv at hv ⊢
    obtain ⟨d, op, g⟩ := o
    cases op <;> simp only [LOp.pureB, Bool.false_eq_true] at hp <;> simp only at hv ⊢ <;> (
      split at hv
      · rename_i c av L2 he
        rw [key he]; exact ⟨hv.1, hv.2.1, rfl⟩
      · exact hv.elim)
  unfold AQ at h ⊢
  split at h
  · exact hv h
  · split at h
    · split at h
      · rename_i e; rw [if_pos e]; exact hv h
      · rename_i e; rw [if_neg e]; exact h
    · exact h
    · exact h.elim

def effPos : List (LOper × Kd) → Nat → List Nat
  | [], _ => []
  | (_, .eff) :: r, k => k :: effPos r (k + 1)
  | _ :: r, k => effPos r (k + 1)

theorem effPos_length : ∀ (qk : List (LOper × Kd)) (k : Nat), (effPos qk k).length = neff qk
  | [], _ => rfl
  | (_, .pure) :: r, k => effPos_length r (k + 1)
  | (_, .read _ _) :: r, k => effPos_length r (k + 1)
  | (_, .eff) :: r, k => by simp [effPos, neff, effPos_length r (k + 1)]

theorem effPos_get : ∀ (qk : List (LOper × Kd)) (k i : Nat) (o : LOper), qk[i]? = some (o, .eff) → (effPos qk k)[neff (qk.take i)]? = some (k + i)
  | [], _, i, o, h => by simp at h
  | (p, kd) :: r, k, 0, o, h => by
    simp only [List.getElem?_cons_zero, Option.some.injEq, Prod.mk.injEq] at h
    obtain ⟨rfl, rfl⟩ := h
    simp [effPos, neff]
  | (p, kd) :: r, k, i + 1, o, h => by
    have ih := effPos_get r (k + 1) i o (by simpa using h)
    rw [show k + 1 + i = k + (i + 1) by omega] at ih
    cases kd <;> simpa [effPos, neff] using ih

theorem effPos_mem : ∀ (qk : List (LOper × Kd)) (k e : Nat), e ∈ effPos qk k → ∃ i o, e = k + i ∧ qk[i]? = some (o, .eff)
  | [], _, e, h => by simp [effPos] at h
  | (p, kd) :: r, k, e, h => by
    have go : e ∈ effPos r (k + 1) → ∃ i o, e = k + i ∧ ((p, kd) :: r)[i]? = some (o, .eff) := fun h' => by
      obtain ⟨i, o, rfl, h2⟩ := effPos_mem r (k + 1) e h'
      exact ⟨i + 1, o, by omega, by simpa using h2⟩
    cases kd with
    | pure => exact go h
    | read _ _ => exact go h
    | eff =>
      rcases List.mem_cons.1 h with rfl | h
      · exact ⟨0, p, rfl, rfl⟩
      · exact go h

/-- The static check of the kinds. -/
def kindsB (tbl : List Nat) (qk : List (LOper × Kd)) : Bool :=
  let es := effPos qk 0
  ((List.range es.length).all fun j' => (List.range j').all fun j => (tbl.getD (es.getD j' 0) 0).testBit (es.getD j 0)) &&
  qk.zipIdx.all fun ((o, kd), i) => match kd with
    | .pure => o.op.pureB
    | .eff => true
    | .read n f => let c := neff (qk.take i)
      (List.range es.length).all fun j => (!decide (j < c - n) || (tbl.getD i 0).testBit (es.getD j 0)) && (!decide (c + f ≤ j) || (tbl.getD (es.getD j 0) 0).testBit i)

end Go.Proofs.YtpednpndahgleaaGreatDoor.Av
