/- Regions, statements, calls over abstract values. No program in sight. -/
import Derived.Test.YtpednpndahgleaaGreatDoorAvM
set_option linter.unusedSimpArgs false
set_option linter.unusedVariables false
namespace Go.Proofs.YtpednpndahgleaaGreatDoor.Av
open Go

structure LOper where
  dst : Option Nat
  op : LOp
  guard : Option (Nat × Bool)
  deriving Inhabited

def putT (dst : Option Nat) (v : AV) (T : Tm) : Tm :=
  match dst with
  | some d => (d, v) :: T
  | none => T

/-- The call of function f, with these arguments, in a state with these blocks: it returns, and of value and blocks behind it Q holds. -/
def ACall (P : Program) (f : FuncId) (args : List AV) (L : List Blk) (Q : AV → List Blk → Prop) : Prop :=
  ∀ (w0 : World) (S0 : Nat → Prop) (E : Env) (w : World) (vs : List Value), Rel w0 S0 E L w → VRL E args vs →
    ((callFunc f ⟨vs⟩).run P w = .ok (.enter f ⟨vs⟩) w ∧ Calls P f ⟨vs⟩ w fun e w' => ∃ E' v av L', e = .returned v ∧ E.le E' ∧ Q av L' ∧ VR E' av v ∧ Rel w0 S0 E' L' w') ∨
    (∃ E' v av L' w', (callFunc f ⟨vs⟩).run P w = .ok (.value v) w' ∧ E.le E' ∧ Q av L' ∧ VR E' av v ∧ Rel w0 S0 E' L' w')

theorem ACall.mono {P : Program} {f : FuncId} {args : List AV} {L : List Blk} {Q Q' : AV → List Blk → Prop} (h : ACall P f args L Q) (hq : ∀ av L', Q av L' → Q' av L') : ACall P f args L Q' := by
  intro w0 S0 E w vs hR hv
  rcases h w0 S0 E w vs hR hv with ⟨h1, h2⟩ | ⟨E', v, av, L', w', h1, h2, h3, h4⟩
  · exact .inl ⟨h1, h2.mono fun e w' ⟨E', v, av, L', a, b, c, d⟩ => ⟨E', v, av, L', a, b, hq _ _ c, d⟩⟩
  · exact .inr ⟨E', v, av, L', w', h1, h2, hq _ _ h3, h4⟩

/-- What stands behind an operation. -/
def Res (K : Tm → List Blk → Prop) (d : Option Nat) (T : Tm) : Option (Prop × AV × List Blk) → Prop
  | some (c, av, L') => c ∧ K (putT d av T) L'
  | none => False
theorem Res_some {K : Tm → List Blk → Prop} {d : Option Nat} {T : Tm} {c : Prop} {av : AV} {L' : List Blk} : Res K d T (some (c, av, L')) = (c ∧ K (putT d av T) L') := rfl
def Kon (K : Tm → List Blk → Prop) (d : Option Nat) (T : Tm) : AV → List Blk → Prop := fun av L' => K (putT d av T) L'
def Cal (P : Program) (f : FuncId) (K : Tm → List Blk → Prop) (d : Option Nat) (T : Tm) (L : List Blk) : Option (List AV) → Prop
  | some args => ACall P f args L (Kon K d T)
  | none => False
theorem Cal_some {P : Program} {f : FuncId} {K : Tm → List Blk → Prop} {d : Option Nat} {T : Tm} {L : List Blk} {args : List AV} : Cal P f K d T L (some args) = ACall P f args L (Kon K d T) := rfl
def Calv (P : Program) (K : Tm → List Blk → Prop) (d : Option Nat) (T : Tm) (L : List Blk) : Option AV → Option (List AV) → Prop
  | some (.func g caps), some args => ACall P g (args ++ caps) L (Kon K d T)
  | _, _ => False
theorem Calv_some {P : Program} {K : Tm → List Blk → Prop} {d : Option Nat} {T : Tm} {L : List Blk} {g : FuncId} {caps args : List AV} : Calv P K d T L (some (.func g caps)) (some args) = ACall P g (args ++ caps) L (Kon K d T) := rfl

def AOp (P : Program) (o : LOper) (K : Tm → List Blk → Prop) (T : Tm) (L : List Blk) : Prop :=
  match o.op with
  | .call f xs => Cal P f K o.dst T L (evXs T xs)
  | .callv f xs => Calv P K o.dst T L (evX T f) (evXs T xs)
  | lo => Res K o.dst T (evalOp T L lo)

def Grd (P : Program) (o : LOper) (K : Tm → List Blk → Prop) (b : Bool) (T : Tm) (L : List Blk) : Option AV → Prop
  | some (.bool x) => if x = b then AOp P o K T L else K (putT o.dst (.tup []) T) L
  | some (.tup []) => K (putT o.dst (.tup []) T) L
  | _ => False
theorem Grd_bool {P : Program} {o : LOper} {K : Tm → List Blk → Prop} {b x : Bool} {T : Tm} {L : List Blk} : Grd P o K b T L (some (.bool x)) = if x = b then AOp P o K T L else K (putT o.dst (.tup []) T) L := rfl
theorem Grd_tup {P : Program} {o : LOper} {K : Tm → List Blk → Prop} {b : Bool} {T : Tm} {L : List Blk} : Grd P o K b T L (some (.tup [])) = K (putT o.dst (.tup []) T) L := rfl

def AOps (P : Program) (K : Tm → List Blk → Prop) : List LOper → Tm → List Blk → Prop
  | [], T, L => K T L
  | o :: rest, T, L => match o.guard with
    | none => AOp P o (AOps P K rest) T L
    | some (t, b) => Grd P o (AOps P K rest) b T L (look T t)
theorem AOps_nil {P : Program} {K : Tm → List Blk → Prop} {T : Tm} {L : List Blk} : AOps P K [] T L = K T L := rfl
theorem AOps_cons {P : Program} {K : Tm → List Blk → Prop} {d : Option Nat} {op : LOp} {rest : List LOper} {T : Tm} {L : List Blk} : AOps P K (⟨d, op, none⟩ :: rest) T L = AOp P ⟨d, op, none⟩ (AOps P K rest) T L := rfl
theorem AOps_guard {P : Program} {K : Tm → List Blk → Prop} {d : Option Nat} {op : LOp} {t : Nat} {b : Bool} {rest : List LOper} {T : Tm} {L : List Blk} : AOps P K (⟨d, op, some (t, b)⟩ :: rest) T L = Grd P ⟨d, op, some (t, b)⟩ (AOps P K rest) b T L (look T t) := rfl

def dstOk (N : Nat) : Option Nat → Bool
  | some d => decide (d < N)
  | none => true

def lowOper (P : Program) (N : Nat) (own : Nat → Nat) (ops : Array Oper) (i : Nat) : Option LOper :=
  match ops[i]? with
  | none => none
  | some o => match (lowOp P (own i) o.op).getD .bad with
    | lo =>
      if dstOk N o.dst = true then
        match o.guard with
        | none => some ⟨o.dst, lo, none⟩
        | some (j, b) => match (ops[j]?).bind (·.dst) with
          | some t => if t < N then some ⟨o.dst, lo, some (t, b)⟩ else none
          | none => none
      else none

def lowOps (P : Program) (N : Nat) (own : Nat → Nat) (ops : Array Oper) : List Nat → Option (List LOper)
  | [] => some []
  | i :: l => match lowOper P N own ops i, lowOps P N own ops l with
    | some o, some m => some (o :: m)
    | _, _ => none

section
variable {P : Program} {w0 : World} {S0 : Nat → Prop} {N : Nat}

theorem put_size (a : Act) (d : Option Nat) (v : Value) : (a.put d v).tmps.size = a.tmps.size := by
  cases d <;> simp [Act.put]
theorem put_defers (a : Act) (d : Option Nat) (v : Value) : (a.put d v).defers = a.defers := by
  cases d <;> simp [Act.put]

theorem TR.putT {E : Env} {T : Tm} {a : Act} {d : Option Nat} {x : AV} {v : Value} (r : TR E T a) (hd : ∀ k, d = some k → k < a.tmps.size) (hv : VR E x v) : TR E (putT d x T) (a.put d v) := by
  cases d with
  | none => exact r
  | some k => exact r.put (hd k rfl) hv

/-- What is known of a state. -/
def St (w0 : World) (S0 : Nat → Prop) (N : Nat) (E : Env) (T : Tm) (L : List Blk) (a : Act) (w : World) : Prop :=
  Rel w0 S0 E L w ∧ TR E T a ∧ a.tmps.size = N ∧ a.defers = []

theorem lowXs_eval {xs : List Operand} {ys : List Opd} {T : Tm} {l : List AV} {E : Env} {a : Act} (h : lowXs xs = some ys) (hv : evXs T ys = some l) (hT : TR E T a) : VRL E l (xs.map a.eval) := evXs_sound h hv hT

theorem lowConv_nc {own : Nat} {s d : TypeId} {x : Opd} {lo : LOp} (h : lowConv P own s d x = some lo) : lo.isCall = false := by
  unfold lowConv at h
  repeat' split at h
  all_goals (first | (cases h; rfl) | cases h)

theorem lowBin_nc {op : BinOp} {t : TypeId} {x y : Operand} {lo : LOp} (h : lowBin P op t x y = some lo) : lo.isCall = false := by
  unfold lowBin at h
  repeat' split at h
  all_goals (first | (cases h; rfl) | cases h)

theorem lowBuiltin_nc {own : Nat} {b : Builtin} {ts : List TypeId} {xs : List Opd} {lo : LOp} (h : lowBuiltin P own b ts xs = some lo) : lo.isCall = false := by
  unfold lowBuiltin at h
  repeat' split at h
  all_goals (first | (cases h; rfl) | cases h | (simp only [Option.map_eq_some_iff] at h; obtain ⟨_, _, rfl⟩ := h; rfl))

theorem lowOp_nc {own : Nat} {op : Op} {lo : LOp} (h : lowOp P own op = some lo) (hc : ∀ c, op ≠ .call c) : lo.isCall = false := by
  cases op
  case makeMap t r =>
    cases r with
    | some x => simp [lowOp] at h
    | none =>
      simp only [lowOp] at h
      split at h <;> cases h
      rfl
  all_goals (simp only [lowOp] at h; try (cases h; done))
  case call c => exact absurd rfl (hc c)
  case binOp => exact lowBin_nc h
  case convert x => simp only [Option.bind_eq_some_iff] at h; obtain ⟨_, _, h⟩ := h; exact lowConv_nc h
  all_goals
    repeat' split at h
    all_goals (first | (cases h; rfl) | cases h | (simp only [Option.map_eq_some_iff] at h; obtain ⟨_, _, rfl⟩ := h; rfl))

theorem aop_sound {own : Nat} {o : Oper} {lo : LOp} {gd : Option (Nat × Bool)} (hl' : (lowOp P own o.op).getD .bad = lo) (hd : ∀ d, o.dst = some d → d < N) {T : Tm} {L : List Blk} {E : Env} {a : Act} {w : World} {K : Tm → List Blk → Prop}
    (hst : St w0 S0 N E T L a w) (h : AOp P ⟨o.dst, lo, gd⟩ K T L) {next : Act → World → Prop} {Q : Exit → Act → World → Prop}
    (hK : ∀ E' T' L' a' w', E.le E' → K T' L' → St w0 S0 N E' T' L' a' w' → next a' w') : o.wp P a w next Q := by
  have hl : lowOp P own o.op = some lo := by
    rcases hq : lowOp P own o.op with _ | x
    · rw [hq] at hl'; simp only [Option.getD_none] at hl'
      subst hl'; exact h.elim
    · rw [hq] at hl'; simp only [Option.getD_some] at hl'
      rw [hl']
  obtain ⟨hR, hT, hN, hdf⟩ := hst
  unfold Oper.wp
  have value : ∀ {E' : Env} {v : Value} {av : AV} {L' : List Blk} {w' : World}, E.le E' → VR E' av v → Rel w0 S0 E' L' w' → K (putT o.dst av T) L' → next (a.put o.dst v) w' := fun {E' v av L' w'} h1 h2 h3 h4 =>
    hK E' _ _ _ _ h1 h4 ⟨h3, (hT.mono h1).putT (fun k hk => by rw [hN]; exact hd k hk) h2, by rw [put_size]; exact hN, by rw [put_defers]; exact hdf⟩
  have called : ∀ {f : FuncId} {vs : List Value} {args : List AV}, ((execOp a.eval o).run P w = (callFunc f ⟨vs⟩).run P w) → VRL E args vs → ACall P f args L (Kon K o.dst T) → o.upon P a next Q ((execOp a.eval o).run P w) := fun {f vs args} hrun hv hc => by
    rw [hrun]
    rcases hc w0 S0 E w vs hR hv with ⟨h1, h2⟩ | ⟨E', v, av, L', w', h1, h2, h3, h4, h5⟩
    · rw [h1, Oper.upon_enter]
      refine h2.mono fun e w' ⟨E', v, av, L', e1, h3, h4, h5, h6⟩ => ?_
      subst e1
      exact value h3 h5 h6 h4
    · rw [h1, Oper.upon_value]
      exact value h2 h4 h5 h3
  by_cases hcall : lo.isCall = true
  · obtain ⟨d0, op, ty, pos, after, guard⟩ := o
    by_cases hop : ∃ c, op = .call c
    · obtain ⟨⟨callee, args, ats⟩, rfl⟩ := hop
      simp only [lowOp] at hl
      split at hl <;> try cases hl
      rename_i xs hx
      split at hl <;> try cases hl
      · rename_i f
        simp only [AOp] at h
        rcases hev : evXs T xs with _ | l
        · rw [hev] at h; exact h.elim
        rw [hev] at h
        refine called (vs := args.toList.map a.eval) ?_ (evXs_sound hx hev hT) h
        rw [execOp_call_go]
        congr 2
        apply Array.ext'; simp
      · rename_i x _
        rcases h1 : lowX x with _ | y <;> simp only [h1, Option.map_none, Option.map_some, reduceCtorEq, Option.some.injEq] at hl
        subst hl
        simp only [AOp] at h
        rcases hev : evX T y with _ | u
        · rw [hev] at h; exact h.elim
        rcases hevs : evXs T xs with _ | l
        · rw [hev, hevs] at h; cases u <;> exact h.elim
        rw [hev, hevs] at h
        cases u <;> simp only [Calv] at h
        rename_i g caps
        have hx' := evX_sound h1 hev hT
        simp only [VR] at hx'
        obtain ⟨cs, hfv, hcs⟩ := hx'
        refine called (vs := args.toList.map a.eval ++ cs) ?_ ((evXs_sound hx hevs hT).append hcs) h
        have : execOp a.eval { dst := d0, op := .call { callee := .value x, args, argTypes := ats }, type := ty, pos, after, guard } = callFunc g (args.map a.eval ++ ⟨cs⟩) := by
          simp only [execOp, resolve, hfv, Deferred.ofValue, pure_bind, invoke]
          congr 1
          apply Array.ext'; simp
        rw [this]
        congr 2
        apply Array.ext'; simp
      · rw [lowBuiltin_nc hl] at hcall; cases hcall
    · rw [lowOp_nc hl (fun c e => hop ⟨c, e⟩)] at hcall; cases hcall
  · have hcall : lo.isCall = false := by simpa using hcall
    have h' : Res K o.dst T (evalOp T L lo) := by
      cases lo <;> simp only [LOp.isCall, Bool.true_eq_false] at hcall <;> exact h
    rcases he : evalOp T L lo with _ | ⟨c, av, L'⟩
    · rw [he] at h'; exact h'.elim
    · rw [he] at h'
      obtain ⟨E', v, w', h1, h2, h3, h4⟩ := evalOp_sound hR hT hl hcall he h'.1
      rcases h1 with h1 | ⟨h1, rfl⟩
      · rw [h1, Oper.upon_value]; exact value h2 h3 h4 h'.2
      · rw [h1, Oper.upon_skip]; exact value h2 h3 h4 h'.2

end
end Go.Proofs.YtpednpndahgleaaGreatDoor.Av
