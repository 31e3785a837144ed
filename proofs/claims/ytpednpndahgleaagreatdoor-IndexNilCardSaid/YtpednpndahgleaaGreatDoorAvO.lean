/- Regions and statements over abstract values. No program in sight. -/
import Derived.Test.YtpednpndahgleaaGreatDoorAvY
import Derived.Test.YtpednpndahgleaaGreatDoorAvZ
import Derived.Test.YtpednpndahgleaaGreatDoorAvZd
set_option linter.unusedSimpArgs false
set_option linter.unusedVariables false
namespace Go.Proofs.YtpednpndahgleaaGreatDoor.Av
open Go

section
variable {P : Program} {w0 : World} {S0 : Nat → Prop} {N : Nat}

/-! ### Statements -/

inductive LCode where
  | skip
  | sreg (sops : List SOp) (mask : List Bool)
  | sdreg (sops : List SOp) (kds : List Kd) (mask : List Bool)
  | dregM (qk : List (LOper × Kd)) (ts : List LOper) (mask : List Bool)
  | region (ops : List LOper)
  | dregion (qk : List (LOper × Kd)) (ts : List LOper)
  | seq (a b : LCode)
  | cond (c : Opd) (a b : LCode)
  | block (id : Nat) (c : LCode)
  | loop (c : LCode)
  | exit (id : Nat)
  | ret
  deriving Inhabited

/-- As it is lowered, without what is told of groups. -/
def LCode.raw : LCode → LCode
  | .sreg s _ => .region (SOp.flatL s)
  | .dregM qk ts _ => .dregion qk ts
  | .sdreg s kds _ => .dregion ((SOp.flatL s).zip kds) ((SOp.flatL s).drop kds.length)
  | .seq a b => .seq a.raw b.raw
  | .cond c a b => .cond c a.raw b.raw
  | .block id c => .block id c.raw
  | .loop c => .loop c.raw
  | c => c

/-- Operations that change the blocks. -/
def LOp.effB : LOp → Bool
  | .alloc _ | .box _ | .s2bO _ | .rangeS _ | .nextS _ | .store .. | .mkslice .. | .app .. | .appz .. | .copy .. | .clear .. | .mkmap | .mset .. | .mdel .. | .mrange _ | .mnext _ => true
  | .bslice own .. => own
  | _ => false

/-- Which operations change the blocks: calls as well that are marked so (mode 3). -/
def effOf (own : Nat → Nat) (i : Nat) (o : LOper) : Bool := o.op.effB || own i == 3
def kindOf (eff : Nat → LOper → Bool) (tbl : List Nat) (es : List Nat) (i : Nat) (o : LOper) : Kd :=
  if o.op.pureB = true then .pure else if eff i o = true then .eff
  else .read (es.filter fun e => decide (e < i) && !(tbl.getD i 0).testBit e).length (es.filter fun e => decide (i < e) && !(tbl.getD e 0).testBit i).length
def kindsOf (eff : Nat → LOper → Bool) (tbl : List Nat) (qs : List LOper) : List (LOper × Kd) :=
  let es := (qs.zipIdx.filter fun p => eff p.2 p.1).map (·.2)
  qs.zipIdx.map fun p => (p.1, kindOf eff tbl es p.2 p.1)
theorem kindsOf_fst (eff : Nat → LOper → Bool) (tbl : List Nat) (qs : List LOper) : (kindsOf eff tbl qs).map (·.1) = qs := by
  simp [kindsOf, List.map_map, Function.comp_def]

def lowCode (P : Program) (N : Nat) (own : Nat → Nat → Nat) : Code → Option LCode
  | .skip => some .skip
  | .region id ops false => (lowOps P N (own id) ops (List.range ops.size)).map .region
  | .region id ops true => (lowOps P N (own id) ops (List.range ops.size)).bind fun los =>
    let n := chainFrom (ctable ops.toList []) 0 los.length
    let qk := kindsOf (effOf (own id)) (ctable ops.toList []) (los.take n)
    if (drawOk ops los n && decide (n ≤ los.length) && P.follows .mixedOrders && kindsB (ctable ops.toList []) qk) = true then some (.dregion qk (los.drop n)) else none
  | .seq a b => match lowCode P N own a, lowCode P N own b with
    | some x, some y => some (.seq x y)
    | _, _ => none
  | .cond c a b => match lowX c, lowCode P N own a, lowCode P N own b with
    | some c, some x, some y => some (.cond c x y)
    | _, _, _ => none
  | .block id c => (lowCode P N own c).map (.block id)
  | .loop c => (lowCode P N own c).map .loop
  | .exit id => some (.exit id)
  | .ret => some .ret
  | _ => none

/-- A statement, begun in such a state, ends so that Q holds of its end. -/
def AW (P : Program) (N : Nat) (own : Nat → Nat → Nat) (lc : LCode) (Q : Exit → Tm → List Blk → Prop) (T : Tm) (L : List Blk) : Prop :=
  ∀ c, lowCode P N own c = some lc.raw → ∀ (w0 : World) (S0 : Nat → Prop) (E : Env) (a : Act) (w : World), St w0 S0 N E T L a w →
    c.wp P (fun e a' w' => ∃ E' T' L', E.le E' ∧ Q e T' L' ∧ St w0 S0 N E' T' L' a' w') a w

variable {own : Nat → Nat → Nat} {Q : Exit → Tm → List Blk → Prop} {T : Tm} {L : List Blk}

theorem AW.mono {lc : LCode} {Q' : Exit → Tm → List Blk → Prop} (h : AW P N own lc Q T L) (hq : ∀ e T L, Q e T L → Q' e T L) : AW P N own lc Q' T L := fun c hc w0 S0 E a w hst =>
  wp_mono (h c hc w0 S0 E a w hst) fun e a' w' ⟨E', T', L', h1, h2, h3⟩ => ⟨E', T', L', h1, hq _ _ _ h2, h3⟩

theorem AW.weakT {lc : LCode} {T' : Tm} (h : AW P N own lc Q T' L) (hT : ∀ t v, look T' t = some v → look T t = some v) : AW P N own lc Q T L := fun c hc w0 S0 E a w hst =>
  h c hc w0 S0 E a w (hst.weak hT rfl fun _ _ e => .inr e)

theorem inv_skip {c : Code} (hc : lowCode P N own c = some (.skip)) : c = .skip := by
  rcases c with _ | ⟨_, _, draw⟩ | _ | _ | _ | _ | _ | _ | _ | _ | _ | _ | _
  case region =>
    cases draw <;> simp only [lowCode] at hc
    all_goals
      (repeat' split at hc)
      all_goals (first | (cases hc; done) | (simp only [Option.map_eq_some_iff] at hc; obtain ⟨_, _, hc⟩ := hc; cases hc; done) | (simp only [Option.bind_eq_some_iff] at hc; obtain ⟨_, _, hc⟩ := hc; split at hc <;> cases hc; done))
  case skip => rfl
  all_goals
    simp only [lowCode] at hc
    (repeat' split at hc)
    all_goals (first | (cases hc; done) | (simp only [Option.map_eq_some_iff] at hc; obtain ⟨_, _, hc⟩ := hc; cases hc; done))

theorem inv_exit {c : Code} {id : Nat} (hc : lowCode P N own c = some (.exit id)) : c = .exit id := by
  rcases c with _ | ⟨_, _, draw⟩ | _ | _ | _ | _ | _ | _ | _ | _ | _ | _ | _
  case region =>
    cases draw <;> simp only [lowCode] at hc
    all_goals
      (repeat' split at hc)
      all_goals (first | (cases hc; done) | (simp only [Option.map_eq_some_iff] at hc; obtain ⟨_, _, hc⟩ := hc; cases hc; done) | (simp only [Option.bind_eq_some_iff] at hc; obtain ⟨_, _, hc⟩ := hc; split at hc <;> cases hc; done))
  case exit => simp only [lowCode, Option.some.injEq, LCode.exit.injEq] at hc; rw [hc]
  all_goals
    simp only [lowCode] at hc
    (repeat' split at hc)
    all_goals (first | (cases hc; done) | (simp only [Option.map_eq_some_iff] at hc; obtain ⟨_, _, hc⟩ := hc; cases hc; done))

theorem inv_ret {c : Code} (hc : lowCode P N own c = some (.ret)) : c = .ret := by
  rcases c with _ | ⟨_, _, draw⟩ | _ | _ | _ | _ | _ | _ | _ | _ | _ | _ | _
  case region =>
    cases draw <;> simp only [lowCode] at hc
    all_goals
      (repeat' split at hc)
      all_goals (first | (cases hc; done) | (simp only [Option.map_eq_some_iff] at hc; obtain ⟨_, _, hc⟩ := hc; cases hc; done) | (simp only [Option.bind_eq_some_iff] at hc; obtain ⟨_, _, hc⟩ := hc; split at hc <;> cases hc; done))
  case ret => rfl
  all_goals
    simp only [lowCode] at hc
    (repeat' split at hc)
    all_goals (first | (cases hc; done) | (simp only [Option.map_eq_some_iff] at hc; obtain ⟨_, _, hc⟩ := hc; cases hc; done))

theorem inv_seq {c : Code} {x y : LCode} (hc : lowCode P N own c = some (.seq x y)) : ∃ c1 c2, c = .seq c1 c2 ∧ lowCode P N own c1 = some x ∧ lowCode P N own c2 = some y := by
  rcases c with _ | ⟨_, _, draw⟩ | _ | _ | _ | _ | _ | _ | _ | _ | _ | _ | _
  case region =>
    cases draw <;> simp only [lowCode] at hc
    all_goals
      (repeat' split at hc)
      all_goals (first | (cases hc; done) | (simp only [Option.map_eq_some_iff] at hc; obtain ⟨_, _, hc⟩ := hc; cases hc; done) | (simp only [Option.bind_eq_some_iff] at hc; obtain ⟨_, _, hc⟩ := hc; split at hc <;> cases hc; done))
  case seq => 
    simp only [lowCode] at hc
    split at hc <;> try (cases hc; done)
    rename_i h1 h2
    cases hc
    exact ⟨_, _, rfl, h1, h2⟩
  all_goals
    simp only [lowCode] at hc
    (repeat' split at hc)
    all_goals (first | (cases hc; done) | (simp only [Option.map_eq_some_iff] at hc; obtain ⟨_, _, hc⟩ := hc; cases hc; done))

theorem inv_cond {c : Code} {o : Opd} {x y : LCode} (hc : lowCode P N own c = some (.cond o x y)) : ∃ c0 c1 c2, c = .cond c0 c1 c2 ∧ lowX c0 = some o ∧ lowCode P N own c1 = some x ∧ lowCode P N own c2 = some y := by
  rcases c with _ | ⟨_, _, draw⟩ | _ | _ | _ | _ | _ | _ | _ | _ | _ | _ | _
  case region =>
    cases draw <;> simp only [lowCode] at hc
    all_goals
      (repeat' split at hc)
      all_goals (first | (cases hc; done) | (simp only [Option.map_eq_some_iff] at hc; obtain ⟨_, _, hc⟩ := hc; cases hc; done) | (simp only [Option.bind_eq_some_iff] at hc; obtain ⟨_, _, hc⟩ := hc; split at hc <;> cases hc; done))
  case cond => 
    simp only [lowCode] at hc
    split at hc <;> try (cases hc; done)
    rename_i h1 h2 h3
    cases hc
    exact ⟨_, _, _, rfl, h1, h2, h3⟩
  all_goals
    simp only [lowCode] at hc
    (repeat' split at hc)
    all_goals (first | (cases hc; done) | (simp only [Option.map_eq_some_iff] at hc; obtain ⟨_, _, hc⟩ := hc; cases hc; done))

theorem inv_block {c : Code} {id : Nat} {x : LCode} (hc : lowCode P N own c = some (.block id x)) : ∃ c1, c = .block id c1 ∧ lowCode P N own c1 = some x := by
  rcases c with _ | ⟨_, _, draw⟩ | _ | _ | _ | _ | _ | _ | _ | _ | _ | _ | _
  case region =>
    cases draw <;> simp only [lowCode] at hc
    all_goals
      (repeat' split at hc)
      all_goals (first | (cases hc; done) | (simp only [Option.map_eq_some_iff] at hc; obtain ⟨_, _, hc⟩ := hc; cases hc; done) | (simp only [Option.bind_eq_some_iff] at hc; obtain ⟨_, _, hc⟩ := hc; split at hc <;> cases hc; done))
  case block => 
    simp only [lowCode, Option.map_eq_some_iff, LCode.block.injEq] at hc
    obtain ⟨_, h1, rfl, rfl⟩ := hc
    exact ⟨_, rfl, h1⟩
  all_goals
    simp only [lowCode] at hc
    (repeat' split at hc)
    all_goals (first | (cases hc; done) | (simp only [Option.map_eq_some_iff] at hc; obtain ⟨_, _, hc⟩ := hc; cases hc; done))

theorem inv_loop {c : Code} {x : LCode} (hc : lowCode P N own c = some (.loop x)) : ∃ c1, c = .loop c1 ∧ lowCode P N own c1 = some x := by
  rcases c with _ | ⟨_, _, draw⟩ | _ | _ | _ | _ | _ | _ | _ | _ | _ | _ | _
  case region =>
    cases draw <;> simp only [lowCode] at hc
    all_goals
      (repeat' split at hc)
      all_goals (first | (cases hc; done) | (simp only [Option.map_eq_some_iff] at hc; obtain ⟨_, _, hc⟩ := hc; cases hc; done) | (simp only [Option.bind_eq_some_iff] at hc; obtain ⟨_, _, hc⟩ := hc; split at hc <;> cases hc; done))
  case loop => 
    simp only [lowCode, Option.map_eq_some_iff, LCode.loop.injEq] at hc
    obtain ⟨_, h1, rfl⟩ := hc
    exact ⟨_, rfl, h1⟩
  all_goals
    simp only [lowCode] at hc
    (repeat' split at hc)
    all_goals (first | (cases hc; done) | (simp only [Option.map_eq_some_iff] at hc; obtain ⟨_, _, hc⟩ := hc; cases hc; done))

theorem inv_region {c : Code} {ops : List LOper} (hc : lowCode P N own c = some (.region ops)) : ∃ id os, c = .region id os false ∧ lowOps P N (own id) os (List.range os.size) = some ops := by
  rcases c with _ | ⟨_, _, draw⟩ | _ | _ | _ | _ | _ | _ | _ | _ | _ | _ | _
  case region =>
    cases draw <;> simp only [lowCode] at hc
    · simp only [Option.map_eq_some_iff, LCode.region.injEq] at hc
      obtain ⟨_, h1, rfl⟩ := hc
      exact ⟨_, _, rfl, h1⟩
    · simp only [Option.bind_eq_some_iff] at hc; obtain ⟨_, _, hc⟩ := hc; split at hc <;> cases hc

  all_goals
    simp only [lowCode] at hc
    (repeat' split at hc)
    all_goals (first | (cases hc; done) | (simp only [Option.map_eq_some_iff] at hc; obtain ⟨_, _, hc⟩ := hc; cases hc; done))

theorem inv_dregion {c : Code} {qk : List (LOper × Kd)} {ts : List LOper} (hc : lowCode P N own c = some (.dregion qk ts)) : ∃ id os los n, c = .region id os true ∧ lowOps P N (own id) os (List.range os.size) = some los ∧ drawOk os los n = true ∧ n ≤ los.length ∧ P.follows .mixedOrders = true ∧ qk.map (·.1) = los.take n ∧ ts = los.drop n ∧ kindsB (ctable os.toList []) qk = true := by
  rcases c with _ | ⟨_, _, draw⟩ | _ | _ | _ | _ | _ | _ | _ | _ | _ | _ | _
  case region =>
    cases draw <;> simp only [lowCode] at hc
    · simp only [Option.map_eq_some_iff] at hc; obtain ⟨_, _, hc⟩ := hc; cases hc
    · simp only [Option.bind_eq_some_iff] at hc
      obtain ⟨los, h1, hc⟩ := hc
      split at hc
      · rename_i hb
        simp only [Bool.and_eq_true, decide_eq_true_eq] at hb
        simp only [Option.some.injEq, LCode.dregion.injEq] at hc
        obtain ⟨rfl, rfl⟩ := hc
        exact ⟨_, _, los, _, rfl, h1, hb.1.1.1, hb.1.1.2, hb.1.2, kindsOf_fst _ _ _, rfl, hb.2⟩
      · cases hc
  all_goals
    simp only [lowCode] at hc
    (repeat' split at hc)
    all_goals (first | (cases hc; done) | (simp only [Option.map_eq_some_iff] at hc; obtain ⟨_, _, hc⟩ := hc; cases hc; done))

theorem AW_skip (h : Q .normal T L) : AW P N own .skip Q T L := fun c hc w0 S0 E a w hst => by
  obtain rfl := inv_skip hc
  exact wp_skip ⟨E, T, L, .refl E, h, hst⟩

theorem AW_exit {id : Nat} (h : Q (.exit id) T L) : AW P N own (.exit id) Q T L := fun c hc w0 S0 E a w hst => by
  obtain rfl := inv_exit hc
  exact wp_exit ⟨E, T, L, .refl E, h, hst⟩

theorem AW_ret (h : Q .ret T L) : AW P N own .ret Q T L := fun c hc w0 S0 E a w hst => by
  obtain rfl := inv_ret hc
  exact wp_ret ⟨E, T, L, .refl E, h, hst⟩

def Qthen (K : Tm → List Blk → Prop) (Q : Exit → Tm → List Blk → Prop) : Exit → Tm → List Blk → Prop
  | .normal, T, L => K T L
  | e, T, L => Q e T L

theorem AW_seq {x y : LCode} (h : AW P N own x (Qthen (AW P N own y Q) Q) T L) : AW P N own (.seq x y) Q T L := fun c hc w0 S0 E a w hst => by
  obtain ⟨c1, c2, rfl, h1, h2⟩ := inv_seq hc
  refine wp_seq (wp_mono (h c1 h1 w0 S0 E a w hst) fun e a' w' ⟨E', T', L', g1, g2, g3⟩ => ?_)
  cases e
  case normal => exact wp_mono (g2 c2 h2 w0 S0 E' a' w' g3) fun e a'' w'' ⟨E'', T'', L'', k1, k2, k3⟩ => ⟨E'', T'', L'', g1.trans k1, k2, k3⟩
  all_goals exact ⟨E', T', L', g1, g2, g3⟩

theorem AW_cond {x : Opd} {y z : LCode} {b : Bool} (hx : evX T x = some (.bool b)) (ht : b = true → AW P N own y Q T L) (hf : b = false → AW P N own z Q T L) : AW P N own (.cond x y z) Q T L := fun c hc w0 S0 E a w hst => by
  obtain ⟨c0, c1, c2, rfl, h1, h2, h3⟩ := inv_cond hc
  have := evX_sound h1 hx hst.2.1
  simp only [VR] at this
  exact wp_cond_split this (fun e => ht e c1 h2 w0 S0 E a w hst) (fun e => hf e c2 h3 w0 S0 E a w hst)

def Qblock (id : Nat) (Q : Exit → Tm → List Blk → Prop) : Exit → Tm → List Blk → Prop
  | .exit id', T, L => if id' = id then Q .normal T L else Q (.exit id') T L
  | e, T, L => Q e T L

theorem AW_condAny {x : Opd} {y z : LCode} (hx : evX T x = some .anyb) (ht : AW P N own y Q T L) (hf : AW P N own z Q T L) : AW P N own (.cond x y z) Q T L := fun c hc w0 S0 E a w hst => by
  obtain ⟨c0, c1, c2, rfl, h0, h1, h2⟩ := inv_cond hc
  have hv := evX_sound h0 hx hst.2.1
  simp only [VR] at hv
  obtain ⟨b, hv⟩ := hv
  exact wp_cond_split hv (fun _ => ht c1 h1 w0 S0 E a w hst) (fun _ => hf c2 h2 w0 S0 E a w hst)

theorem AW_block {id : Nat} {x : LCode} (h : AW P N own x (Qblock id Q) T L) : AW P N own (.block id x) Q T L := fun c hc w0 S0 E a w hst => by
  obtain ⟨c1, rfl, h1⟩ := inv_block hc
  refine wp_block (wp_mono (h c1 h1 w0 S0 E a w hst) fun e a' w' ⟨E', T', L', g1, g2, g3⟩ => ?_)
  cases e
  case exit i =>
    simp only [Qblock] at g2
    simp only [Exit.inBlock]
    split at g2
    · rename_i e; rw [if_pos e]; exact ⟨E', T', L', g1, g2, g3⟩
    · rename_i e; rw [if_neg e]; exact ⟨E', T', L', g1, g2, g3⟩
  all_goals exact ⟨E', T', L', g1, g2, g3⟩

theorem exists_least (p : Nat → Prop) : ∀ n, p n → ∃ m, p m ∧ ∀ k, p k → m ≤ k := by
  intro n
  induction n using Nat.strongRecOn with
  | _ n ih =>
    intro hn
    by_cases h : ∃ k, k < n ∧ p k
    · obtain ⟨k, h1, h2⟩ := h
      exact ih k h1 h2
    · refine ⟨n, hn, fun k hk => ?_⟩
      rcases Nat.lt_or_ge k n with h1 | h1
      · exact absurd ⟨k, h1, hk⟩ h
      · exact h1

/-- A loop: what holds at every round's head, and a number that falls. -/
theorem AW_loop {x : LCode} (I : Nat → Tm → List Blk → Prop) {n0 : Nat} (h0 : I n0 T L) (round : ∀ n T L, I n T L → AW P N own x (Qthen (fun T' L' => ∃ m, m < n ∧ I m T' L') Q) T L) : AW P N own (.loop x) Q T L := fun c hc w0 S0 E a w hst => by
  classical
  obtain ⟨c1, rfl, h1⟩ := inv_loop hc
  -- the measure is chosen out of what holds
  let J : Act → World → Nat → Prop := fun a w n => ∃ E' T' L', E.le E' ∧ I n T' L' ∧ St w0 S0 N E' T' L' a w
  have least : ∀ a w, ∃ m, (∃ n, J a w n) → J a w m ∧ ∀ k, J a w k → m ≤ k := fun a w => by
    by_cases h : ∃ n, J a w n
    · obtain ⟨n, hn⟩ := h
      obtain ⟨m, h1, h2⟩ := exists_least (J a w) n hn
      exact ⟨m, fun _ => ⟨h1, h2⟩⟩
    · exact ⟨0, fun h' => absurd h' h⟩
  let μ : Act → World → Nat := fun a w => Classical.choose (least a w)
  have hμ : ∀ a w, (∃ n, J a w n) → J a w (μ a w) ∧ ∀ k, J a w k → μ a w ≤ k := fun a w => Classical.choose_spec (least a w)
  refine wp_loop (fun a w => ∃ n, J a w n) μ ⟨n0, E, T, L, .refl E, h0, hst⟩ fun a w hI => ?_
  obtain ⟨E', T', L', g1, g2, g3⟩ := (hμ a w hI).1
  refine wp_mono (round _ T' L' g2 c1 h1 w0 S0 E' a w g3) fun e a' w' ⟨E'', T'', L'', k1, k2, k3⟩ => ?_
  cases e
  case normal =>
    obtain ⟨m, hm, hI'⟩ := k2
    have hJ' : J a' w' m := ⟨E'', T'', L'', g1.trans k1, hI', k3⟩
    exact ⟨⟨m, hJ'⟩, Nat.lt_of_le_of_lt ((hμ a' w' ⟨m, hJ'⟩).2 m hJ') hm⟩
  all_goals exact ⟨E'', T'', L'', g1.trans k1, k2, k3⟩

theorem St.draw {E : Env} {a : Act} {w : World} {T : Tm} {L : List Blk} (h : St w0 S0 N E T L a w) (n : Nat) : St w0 S0 N E T L a { w with drawn := n } := ⟨h.1.draw n, h.2⟩

/-- A region in any order: what looks, what changes the blocks, then a chain. -/
theorem AW_dregion {qk : List (LOper × Kd)} {ts : List LOper} (h : AG P (AOps P (Q .normal) ts) qk [L] [] T) : AW P N own (.dregion qk ts) Q T L := fun c hc w0 S0 E a w hst => by
  obtain ⟨id, os, los, n, rfl, h1, h2, h3, h4, h5, rfl, h6⟩ := inv_dregion hc
  refine wp_region_any h4 ?_
  have hn : qk.length = n := by
    have := congrArg List.length h5
    simp at this; omega
  exact any_walk (w0 := w0) (S0 := S0) (L := L) (T := T) (Q := fun e a' w' => ∃ E' T' L', E.le E' ∧ Q e T' L' ∧ St w0 S0 N E' T' L' a' w') (K := Q .normal) (E0 := E) h1 h2 (by rw [h5, List.take_append_drop]) hn h6 h (fun E' T' L' a' w' e1 e2 e3 => ⟨E', T', L', e1, e2, e3⟩) a _ E (.refl E) (hst.draw _)

/-- What was put last holds no entry twice that is dropped. -/
def selB (mask : List Bool) (T : Tm) : Bool := (mask.zip T).all fun p => p.1 || (look (sel mask T) p.2.1).isNone
theorem sel_look : ∀ {mask : List Bool} {T : Tm} {t : Nat} {v : AV}, (∀ p ∈ mask.zip T, p.1 = true ∨ p.2.1 ≠ t) → look (sel mask T) t = some v → look T t = some v
  | [], T, t, v, _, h => by rwa [sel_nil] at h
  | true :: m, [], t, v, _, h => by simp [sel, look] at h
  | false :: m, [], t, v, _, h => by simp [sel, look] at h
  | true :: m, x :: T, t, v, hm, h => by
    obtain ⟨k, u⟩ := x
    rw [sel_t] at h
    simp only [look] at h ⊢
    split
    · rename_i e; rw [if_pos e] at h; exact h
    · rename_i e; rw [if_neg e] at h
      exact sel_look (fun p hp => hm p (by simp only [List.zip_cons_cons, List.mem_cons]; exact .inr hp)) h
  | false :: m, x :: T, t, v, hm, h => by
    obtain ⟨k, u⟩ := x
    rw [sel_f] at h
    have hk : k ≠ t := by
      rcases hm (false, (k, u)) (by simp) with h | h
      · cases h
      · exact h
    simp only [look]
    rw [if_neg hk]
    exact sel_look (fun p hp => hm p (by simp only [List.zip_cons_cons, List.mem_cons]; exact .inr hp)) h
theorem selB_look {mask : List Bool} {T : Tm} {t : Nat} {v : AV} (hb : selB mask T = true) (h : look (sel mask T) t = some v) : look T t = some v :=
  sel_look (fun p hp => by
    have := List.all_eq_true.1 hb p hp
    rcases Bool.or_eq_true_iff.1 this with h1 | h1
    · exact .inl h1
    · refine .inr fun e => ?_
      rw [e, h] at h1; cases h1) h

/-- The end of a region: what is dropped is dropped. -/
def SelK (mask : List Bool) (K : Tm → List Blk → Prop) (T : Tm) (L : List Blk) : Prop := selB mask T = true ∧ K (sel mask T) L
theorem SelK_mk {mask : List Bool} {K : Tm → List Blk → Prop} {T : Tm} {L : List Blk} (h1 : selB mask T = true) (h2 : K (sel mask T) L) : SelK mask K T L := ⟨h1, h2⟩
def frB (ds : List Nat) (T : Tm) : Bool := ds.all fun d => (look T d).isNone

theorem AW_sreg {sops : List SOp} {mask : List Bool} (hf : (okS sops && frB (gds sops) T) = true) (h : SL P sops (SelK mask (Q .normal)) T L) : AW P N own (.sreg sops mask) Q T L := fun c hc w0 S0 E a w hst => by
  obtain ⟨id, os, rfl, h1⟩ := inv_region hc
  rw [Bool.and_eq_true] at hf
  refine wp_region (sl_sound sops hf.1 h1 hst (fun d hd => ?_) h fun E' T' L' a' w' h2 h3 h4 => ⟨E', sel mask T', L', h2, h3.2, h4.weak (fun t v hv => selB_look h3.1 hv) rfl fun _ _ e => .inr e⟩)
  have := List.all_eq_true.1 hf.2 d hd
  simpa using this

def SelD (mask : List Bool) (K : Tm → List Blk → Prop) (L : List Blk) (T : Tm) : Prop := SelK mask K T L
theorem SelD_eq {mask : List Bool} {K : Tm → List Blk → Prop} {T : Tm} {L : List Blk} : SelD mask K L T = SelK mask K T L := rfl

theorem AW_sdreg {sops : List SOp} {kds : List Kd} {mask : List Bool} (hf : (okG none [] [] sops && frB (gds sops) T && decide (kds.length ≤ (SOp.flatL sops).length)) = true) (h : GL P L sops (SelD mask (Q .normal) L) T) : AW P N own (.sdreg sops kds mask) Q T L := fun c hc w0 S0 E a w hst => by
  obtain ⟨id, os, los, n, rfl, h1, h2, h3, h4, h5, h6, _⟩ := inv_dregion hc
  simp only [Bool.and_eq_true, decide_eq_true_eq] at hf
  obtain ⟨⟨f1, f2⟩, f3⟩ := hf
  have hlos : los = SOp.flatL sops := by
    have e1 : ((SOp.flatL sops).zip kds).map (·.1) = (SOp.flatL sops).take kds.length := by
      have key : ∀ (l : List LOper) (m : List Kd), (l.zip m).map (·.1) = l.take m.length := by
        intro l
        induction l with
        | nil => intro m; simp
        | cons o l ih => intro m; cases m <;> simp [ih]
      exact key _ _
    rw [e1] at h5
    rw [← List.take_append_drop n los, ← h5, ← h6, List.take_append_drop]
  have hlen : los.length = os.size := by simpa using (lowOps_get h1).1
  refine wp_region_any h4 ?_
  have hdraw : drawOk os los los.length = true := by
    simp only [drawOk, Bool.and_eq_true] at h2 ⊢
    refine ⟨h2.1, ?_⟩
    simp only [chainB, List.all_eq_true, List.mem_range, Bool.or_eq_true, decide_eq_true_eq]
    exact fun i hi => .inl (by omega)
  have har := ar_region (P := P) (L := L) f1 (T := T) (fun d hd => by
    have := List.all_eq_true.1 f2 d hd
    simpa using this) h
  refine any_walk (w0 := w0) (S0 := S0) (L := L) (T := T) (Q := fun e a' w' => ∃ E' T' L', E.le E' ∧ Q e T' L' ∧ St w0 S0 N E' T' L' a' w') (E0 := E) (qk := los.map fun o => (o, .read 0 0)) (ts := []) h1 hdraw (by simp [List.map_map, Function.comp_def]) (by simp) ?_ (K := fun T1 L' => L' = L ∧ ∃ T', SelD mask (Q .normal) L T' ∧ ∀ t v, look T' t = some v → look T1 t = some v)
    ?_ (fun E' T' L' a' w' e1 ⟨e2, T2, e3, e4⟩ e5 => ?_) a _ E (.refl E) (hst.draw _)
  · have hno : ∀ (l : List LOper) (k : Nat), effPos (l.map fun o => (o, Kd.read 0 0)) k = [] := by
      intro l
      induction l with
      | nil => intro k; rfl
      | cons o l ih => intro k; simp only [List.map_cons, effPos]; exact ih _
    simp only [kindsB, hno, List.length_nil, List.range_zero, List.all_nil, Bool.true_and, List.all_eq_true]
    intro p hp
    obtain ⟨⟨o, kd⟩, i⟩ := p
    have : kd = Kd.read 0 0 := by
      have := List.fst_mem_of_mem_zipIdx hp
      simp only [List.mem_map] at this
      obtain ⟨o', _, e⟩ := this
      cases e; rfl
    subst this; rfl
  · rw [hlos]
    exact har
  · subst e2
    exact ⟨E', sel mask T2, _, e1, e3.2, e5.weak (fun t v hv => e4 t v (selB_look e3.1 hv)) rfl fun _ _ e => .inr e⟩

theorem AW_dregM {qk : List (LOper × Kd)} {ts : List LOper} {mask : List Bool} (h : AG P (AOps P (SelK mask (Q .normal)) ts) qk [L] [] T) : AW P N own (.dregM qk ts mask) Q T L := fun c hc w0 S0 E a w hst => by
  have := AW_dregion (N := N) (own := own) (Q := fun e T' L' => e = .normal ∧ SelK mask (Q .normal) T' L') (L := L) (T := T) (qk := qk) (ts := ts) (P := P) ?_ c hc w0 S0 E a w hst
  · refine wp_mono this fun e a' w' ⟨E', T', L', g1, ⟨g2, g3⟩, g4⟩ => ?_
    subst g2
    exact ⟨E', sel mask T', L', g1, g3.2, g4.weak (fun t v hv => selB_look g3.1 hv) rfl fun _ _ e => .inr e⟩
  · have e : (fun T' L' => Exit.normal = Exit.normal ∧ SelK mask (Q .normal) T' L') = SelK mask (Q .normal) := by
      funext T' L'; simp
    rw [e]; exact h

theorem AW_region {ops : List LOper} (h : AOps P (Q .normal) ops T L) : AW P N own (.region ops) Q T L := fun c hc w0 S0 E a w hst => by
  obtain ⟨id, os, rfl, h1⟩ := inv_region hc
  exact wp_region (aops_sound _ _ h1 hst h fun E' T' L' a' w' h2 h3 h4 => ⟨E', T', L', h2, h3, h4⟩)

end
end Go.Proofs.YtpednpndahgleaaGreatDoor.Av
