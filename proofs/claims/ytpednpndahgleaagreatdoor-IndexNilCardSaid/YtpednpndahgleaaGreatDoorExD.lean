/- The interpreter over abstract values does what the bodies do. No program in sight. -/
import Derived.Test.YtpednpndahgleaaGreatDoorExC
set_option linter.unusedSimpArgs false
set_option linter.unusedVariables false
namespace Go.Proofs.YtpednpndahgleaaGreatDoor.Av
open Go
set_option maxHeartbeats 4000000

mutual
theorem AV.beq_eq : ∀ {a b : AV}, AV.beq a b = true → a = b
  | .undef, b, h => by cases b <;> first | rfl | (simp [AV.beq] at h)
  | .bool _, b, h => by cases b <;> simp [AV.beq] at h; simp [h]
  | .anyb, b, h => by cases b <;> first | rfl | (simp [AV.beq] at h)
  | .int _ _, b, h => by cases b <;> simp [AV.beq] at h; simp [h]
  | .str _, b, h => by cases b <;> simp [AV.beq] at h; simp [h]
  | .nilptr, b, h => by cases b <;> first | rfl | (simp [AV.beq] at h)
  | .gptr _ _, b, h => by cases b <;> simp [AV.beq] at h; simp [h]
  | .ptr _ _, b, h => by cases b <;> simp [AV.beq] at h; simp [h]
  | .iptr l o, b, h => by
    cases b <;> simp [AV.beq] at h
    simp only [h.1, AV.beqL_eq h.2]
  | .nilsl, b, h => by cases b <;> first | rfl | (simp [AV.beq] at h)
  | .sl l n c, b, h => by
    cases b <;> simp [AV.beq] at h
    simp only [h.1.1, h.1.2, AV.beqL_eq h.2]
  | .lsl _ _ _ _ _, b, h => by cases b <;> simp [AV.beq] at h; simp [h]
  | .gsl l n i s, b, h => by
    cases b <;> simp [AV.beq] at h
    simp only [h.1.1.1, h.1.1.2, h.1.2, AV.beqL_eq h.2]
  | .nilmap, b, h => by cases b <;> first | rfl | (simp [AV.beq] at h)
  | .lmap _, b, h => by cases b <;> simp [AV.beq] at h; simp [h]
  | .func f l, b, h => by
    cases b <;> simp [AV.beq] at h
    simp only [h.1, AV.beqL_eq h.2]
  | .nilfunc, b, h => by cases b <;> first | rfl | (simp [AV.beq] at h)
  | .nilif, b, h => by cases b <;> first | rfl | (simp [AV.beq] at h)
  | .iface t a, b, h => by
    cases b <;> simp [AV.beq] at h
    simp only [h.1, AV.beq_eq h.2]
  | .agg l, b, h => by
    cases b <;> simp [AV.beq] at h
    simp only [AV.beqL_eq h]
  | .tup l, b, h => by
    cases b <;> simp [AV.beq] at h
    simp only [AV.beqL_eq h]
theorem AV.beqL_eq : ∀ {a b : List AV}, AV.beqL a b = true → a = b
  | [], b, h => by cases b <;> first | rfl | (simp [AV.beqL] at h)
  | a :: l, b, h => by
    cases b <;> simp [AV.beqL] at h
    rw [AV.beq_eq h.1, AV.beqL_eq h.2]
end

mutual
theorem refs_closed {p : Nat → Bool} : ∀ {a : AV}, a.refs (fun _ => false) = true → a.refs p = true
  | .undef, _ => rfl
  | .bool _, _ => rfl
  | .anyb, _ => rfl
  | .int _ _, _ => rfl
  | .str _, _ => rfl
  | .nilptr, _ => rfl
  | .gptr _ _, _ => rfl
  | .ptr _ _, h => by simp [AV.refs] at h
  | .iptr l o, h => by simp only [AV.refs] at h ⊢; exact refsL_closed h
  | .nilsl, _ => rfl
  | .sl l n c, h => by simp only [AV.refs] at h ⊢; exact refsL_closed h
  | .lsl _ _ _ _ _, h => by simp [AV.refs] at h
  | .gsl _ _ _ _, h => by simp [AV.refs] at h
  | .nilmap, _ => rfl
  | .lmap _, h => by simp [AV.refs] at h
  | .func g l, h => by simp only [AV.refs] at h ⊢; exact refsL_closed h
  | .nilfunc, _ => rfl
  | .nilif, _ => rfl
  | .iface t a, h => by simp only [AV.refs] at h ⊢; exact refs_closed h
  | .agg l, h => by simp only [AV.refs] at h ⊢; exact refsL_closed h
  | .tup l, h => by simp only [AV.refs] at h ⊢; exact refsL_closed h
theorem refsL_closed {p : Nat → Bool} : ∀ {l : List AV}, AV.refsL (fun _ => false) l = true → AV.refsL p l = true
  | [], _ => rfl
  | a :: l, h => by
    simp only [AV.refsL, Bool.and_eq_true] at h ⊢
    exact ⟨refs_closed h.1, refsL_closed h.2⟩
end

mutual
theorem snap_sh {B i : Nat} {l : List AV} : ∀ (a : AV), (a.sh B).snap (sf B i) (shL B l) = (a.snap i l).sh B
  | .undef => rfl
  | .bool _ => rfl
  | .anyb => rfl
  | .int _ _ => rfl
  | .str _ => rfl
  | .nilptr => rfl
  | .gptr _ _ => rfl
  | .ptr _ _ => rfl
  | .iptr _ _ => rfl
  | .nilsl => rfl
  | .sl _ _ _ => rfl
  | .lsl j o n c s => by
    simp only [AV.sh, AV.ren, AV.snap]
    by_cases h : j = i
    · subst h; rw [if_pos rfl, if_pos rfl]; simp only [AV.ren, shL_drop, shL_take]
    · rw [if_neg h, if_neg (by unfold sf; omega)]; simp only [AV.ren]
  | .gsl _ _ _ _ => rfl
  | .nilmap => rfl
  | .lmap _ => rfl
  | .func _ _ => rfl
  | .nilfunc => rfl
  | .nilif => rfl
  | .iface _ _ => rfl
  | .agg l => by simp only [AV.sh, AV.ren, AV.snap]; rw [snapL_sh l]
  | .tup l => by simp only [AV.sh, AV.ren, AV.snap]; rw [snapL_sh l]
theorem snapL_sh {B i : Nat} {l : List AV} : ∀ (a : List AV), AV.snapL (sf B i) (shL B l) (AV.renL (sf B) a) = AV.renL (sf B) (AV.snapL i l a)
  | [] => rfl
  | a :: m => by
    simp only [AV.renL, AV.snapL]
    have := snap_sh (B := B) (i := i) (l := l) a
    simp only [AV.sh] at this
    rw [snapL_sh m, this]
end

theorem fin_snaps {L0 : List Blk} {Q : AV → List Blk → Prop} : ∀ (rest pre : List Blk) (v : AV), closedA ((snaps rest pre.length v).frz) = true → Q ((snaps rest pre.length v).frz) L0 → Fin L0 (v.sh L0.length) (onto L0 (pre ++ rest)) Q
  | [], pre, v, hc, hq => by
    refine Fin_frz ?_
    rw [frz_sh, show AV.sh L0.length v.frz = v.frz from ren_closed hc]
    exact Fin_pure (refs_closed hc) hq
  | k :: rest, pre, v, hc, hq => by
    have skip : snaps (k :: rest) pre.length v = snaps rest (pre.length + 1) v → Fin L0 (v.sh L0.length) (onto L0 (pre ++ k :: rest)) Q := fun e => by
      rw [e] at hc hq
      have := fin_snaps (Q := Q) rest (pre ++ [k]) v (by simpa using hc) (by simpa using hq)
      simpa using this
    cases k
    case cells l =>
      simp only [snaps] at hc hq
      refine Fin_snap (i := sf L0.length pre.length) (l := shL L0.length l) (by rw [get_sh]; simp [Blk.sh]) ?_
      rw [snap_sh, show Blk.dead = Blk.sh L0.length .dead from rfl, set_sh]
      have := fin_snaps (Q := Q) rest (pre ++ [.dead]) (v.snap pre.length l) (by simpa using hc) (by simpa using hq)
      simpa using this
    all_goals exact skip rfl

/-! ### Bodies without numbers of blocks in them -/
def opsOk (l : List LOper) : Bool := l.all fun o => o.op.okc
mutual
def SOp.okc : SOp → Bool
  | .op o => o.op.okc
  | .grp _ _ _ body _ x => sopsOk body && x.okc
def sopsOk : List SOp → Bool
  | [] => true
  | s :: r => s.okc && sopsOk r
end
def LCode.okc : LCode → Bool
  | .sreg s _ => sopsOk s
  | .sdreg s _ _ => sopsOk s
  | .dregM qk ts _ => opsOk (qk.map (·.1)) && opsOk ts
  | .region ops => opsOk ops
  | .dregion qk ts => opsOk (qk.map (·.1)) && opsOk ts
  | .seq a b => a.okc && b.okc
  | .cond x a b => x.okc && a.okc && b.okc
  | .block _ c => c.okc
  | .loop c => c.okc
  | _ => true

section
variable {P : Program}

/-- A way to call that does what calls do. -/
def CallOk (P : Program) (call : CallF) : Prop := ∀ f args L v L', call f args L = some (v, L') → ∀ L0 : List Blk, ACall P f (shL L0.length args) (onto L0 L) fun av K => av = v.sh L0.length ∧ K = onto L0 L'
def RunOk (P : Program) (run : RunF) : Prop := ∀ f args v, run f args = some v → closedL args = true ∧ closedA v = true ∧ ∀ L, ACall P f args L fun av K => av = v ∧ K = L

theorem putT_sh (B : Nat) (d : Option Nat) (v : AV) (T : Tm) : putT d (v.sh B) (shT B T) = shT B (putT d v T) := by
  cases d <;> rfl

theorem evalE_EQv {o : LOper} {T : Tm} {L L' : List Blk} {v : AV} (hk : o.op.okc = true) (h : evalE T L o.op = some (v, L')) (L0 : List Blk) : EQv P o (shT L0.length T) (onto L0 L) (v.sh L0.length) (onto L0 L') := by
  obtain ⟨c, h1, h2⟩ := evalE_ok h
  have h3 := evalOp_sh (L0 := L0) (M := L) (T := T) hk
  rw [h1] at h3
  obtain ⟨d, op, g⟩ := o
  cases op
  case call => simp [evalOp] at h1
  case callv => simp [evalOp] at h1
  all_goals
    simp only at h3
    simp only [EQv, h3, Option.map_some, shR]
    first | exact ⟨h2, rfl, rfl⟩ | exact ⟨h2, trivial, trivial⟩ | exact ⟨h2, trivial⟩ | exact h2 | exact ⟨h2, rfl⟩ | simp_all

theorem xOp_sound {call : CallF} (hcall : CallOk P call) {o : LOper} {T : Tm} {L L' : List Blk} {v : AV} (hk : o.op.okc = true) (h : xOp call o T L = some (v, L')) (L0 : List Blk) : EQv P o (shT L0.length T) (onto L0 L) (v.sh L0.length) (onto L0 L') := by
  obtain ⟨d, op, g⟩ := o
  unfold xOp at h
  simp only at h hk
  split at h
  · rename_i f xs
    simp only [LOp.okc] at hk
    simp only [EQv, evXs_sh hk]
    cases ha : evXs T xs with
    | none => rw [ha] at h; simp at h
    | some args => rw [ha] at h; exact hcall f args L v L' h L0
  · rename_i fx xs
    simp only [LOp.okc, Bool.and_eq_true] at hk
    simp only [EQv, evXs_sh hk.2, evX_sh hk.1]
    cases hf : evX T fx with
    | none => rw [hf] at h; simp at h
    | some fv =>
      rw [hf] at h
      cases ha : evXs T xs with
      | none => rw [ha] at h; cases fv <;> simp at h
      | some args =>
        rw [ha] at h
        cases fv <;> simp only [reduceCtorEq] at h
        rename_i g caps
        simp only [Option.map_some, AV.sh, AV.ren]
        have := hcall g (args ++ caps) L v L' h L0
        rwa [← shL_app] at this
  · exact evalE_EQv (o := ⟨d, op, g⟩) hk (evalF_some h) L0

theorem xG_sound {call : CallF} (hcall : CallOk P call) {o : LOper} {T : Tm} {L L' : List Blk} {v : AV} (hk : o.op.okc = true) (h : xG call o T L = some (v, L')) (L0 : List Blk) : EQ P o (shT L0.length T) (onto L0 L) (v.sh L0.length) (onto L0 L') := by
  unfold xG at h
  unfold EQ
  split at h
  · rename_i hg; simp only [hg]; exact xOp_sound hcall hk h L0
  · rename_i t b hg
    simp only [hg, look_sh]
    split at h
    · rename_i x hx
      rw [hx]
      simp only [Option.map_some, AV.sh, AV.ren]
      split at h
      · rename_i e; rw [if_pos e]; exact xOp_sound hcall hk h L0
      · rename_i e; rw [if_neg e]
        simp only [Option.some.injEq, Prod.mk.injEq] at h
        obtain ⟨rfl, rfl⟩ := h
        exact ⟨rfl, rfl⟩
    · rename_i hx
      rw [hx]
      simp only [Option.some.injEq, Prod.mk.injEq] at h
      obtain ⟨rfl, rfl⟩ := h
      exact ⟨rfl, rfl⟩
    · cases h

theorem AOp.mono {o : LOper} {K K' : Tm → List Blk → Prop} {T : Tm} {L : List Blk} (h : AOp P o K T L) (hk : ∀ T L, K T L → K' T L) : AOp P o K' T L := by
  unfold AOp at h ⊢
  split at h
  · unfold Cal at h ⊢
    split at h
    · exact ACall.mono h fun av L' => hk _ _
    · exact h
  · unfold Calv at h ⊢
    split at h
    · exact ACall.mono h fun av L' => hk _ _
    · exact h.elim
  · unfold Res at h ⊢
    split at h
    · exact ⟨h.1, hk _ _ h.2⟩
    · exact h

theorem EQ.then {o : LOper} {K : Tm → List Blk → Prop} {T : Tm} {L L2 : List Blk} {v : AV} (h : EQ P o T L v L2) (hk : K (putT o.dst v T) L2) :
    match o.guard with | none => AOp P o K T L | some (t, b) => Grd P o K b T L (look T t) := by
  unfold EQ at h
  split at h
  · rename_i hg
    simp only [hg]
    exact h.aop.mono fun T' L' ⟨e1, e2⟩ => by rw [e1, e2]; exact hk
  · rename_i t b hg
    simp only [hg]
    split at h
    · rename_i x hx
      rw [hx, Grd_bool]
      split at h
      · rename_i e; rw [if_pos e]
        exact h.aop.mono fun T' L' ⟨e1, e2⟩ => by rw [e1, e2]; exact hk
      · rename_i e; rw [if_neg e]
        obtain ⟨rfl, rfl⟩ := h
        exact hk
    · rename_i hx
      rw [hx, Grd_tup]
      obtain ⟨rfl, rfl⟩ := h
      exact hk
    · exact h.elim

theorem xOps_sound {call : CallF} (hcall : CallOk P call) {K : Tm → List Blk → Prop} (L0 : List Blk) : ∀ {ops : List LOper} {T T' : Tm} {L L' : List Blk}, opsOk ops = true → xOps call ops T L = some (T', L') → K (shT L0.length T') (onto L0 L') → AOps P K ops (shT L0.length T) (onto L0 L)
  | [], T, T', L, L', _, h, hK => by
    simp only [xOps, Option.some.injEq, Prod.mk.injEq] at h
    obtain ⟨rfl, rfl⟩ := h
    exact hK
  | o :: r, T, T', L, L', hk, h, hK => by
    simp only [opsOk, List.all_cons, Bool.and_eq_true] at hk
    simp only [xOps] at h
    split at h
    · rename_i v L1 h1
      have h2 := xG_sound hcall hk.1 h1 L0
      have h3 := xOps_sound hcall L0 (ops := r) hk.2 h hK
      rw [← putT_sh] at h3
      exact h2.then (K := AOps P K r) h3
    · cases h

theorem qOp_sound {run : RunF} (hrun : RunOk P run) {o : LOper} {T : Tm} {L : List Blk} {v : AV} (hk : o.op.okc = true) (h : qOp run o T L = some v) (L0 : List Blk) : AQv P o (shT L0.length T) (onto L0 L) (v.sh L0.length) := by
  obtain ⟨d, op, g⟩ := o
  unfold qOp at h
  simp only at h hk
  split at h
  · rename_i f xs
    simp only [LOp.okc] at hk
    simp only [AQv, evXs_sh hk]
    cases ha : evXs T xs with
    | none => rw [ha] at h; simp at h
    | some args =>
      rw [ha] at h
      obtain ⟨c1, c2, c3⟩ := hrun f args v h
      simp only [Option.map_some]
      rw [show shL L0.length args = args from renL_closed c1, show AV.sh L0.length v = v from ren_closed c2]
      exact c3 _
  · rename_i fx xs
    simp only [LOp.okc, Bool.and_eq_true] at hk
    simp only [AQv, evXs_sh hk.2, evX_sh hk.1]
    cases hf : evX T fx with
    | none => rw [hf] at h; simp at h
    | some fv =>
      rw [hf] at h
      cases ha : evXs T xs with
      | none => rw [ha] at h; cases fv <;> simp at h
      | some args =>
        rw [ha] at h
        cases fv <;> simp only [reduceCtorEq] at h
        rename_i g caps
        obtain ⟨c1, c2, c3⟩ := hrun g (args ++ caps) v h
        simp only [Option.map_some, AV.sh, AV.ren]
        have e : shL L0.length args ++ shL L0.length caps = args ++ caps := by rw [shL_app]; exact renL_closed c1
        have e2 : AV.ren (sf L0.length) v = v := ren_closed c2
        rw [e, e2]
        exact c3 _
  · rename_i n1 n2
    split at h
    · cases h
    · rename_i he
      split at h
      · rename_i u L' h1
        simp only [Option.some.injEq] at h; subst h
        obtain ⟨c, h2, h3⟩ := evalE_ok (evalF_some h1)
        have := quiet_ok (by simpa using he) h2
        subst this
        have h4 := evalOp_sh (L0 := L0) (M := L') (T := T) hk
        rw [h2] at h4
        cases op
        case call => exact (n1 _ _ rfl).elim
        case callv => exact (n2 _ _ rfl).elim
        all_goals
          simp only [AQv, h4, Option.map_some, shR]
          first | exact ⟨h3, rfl, rfl⟩ | exact ⟨h3, trivial, trivial⟩ | simp_all
      · cases h

theorem qG_sound {run : RunF} (hrun : RunOk P run) {o : LOper} {T : Tm} {L : List Blk} {v : AV} (hk : o.op.okc = true) (h : qG run o T L = some v) (L0 : List Blk) : AQ P o (shT L0.length T) (onto L0 L) (v.sh L0.length) := by
  unfold qG at h
  unfold AQ
  split at h
  · rename_i hg; simp only [hg]; exact qOp_sound hrun hk h L0
  · rename_i t b hg
    simp only [hg, look_sh]
    split at h
    · rename_i x hx
      rw [hx]
      simp only [Option.map_some, AV.sh, AV.ren]
      split at h
      · rename_i e; rw [if_pos e]; exact qOp_sound hrun hk h L0
      · rename_i e; rw [if_neg e]
        simp only [Option.some.injEq] at h
        subst h; rfl
    · rename_i hx
      rw [hx]
      simp only [Option.some.injEq] at h
      subst h; rfl
    · cases h

theorem GOp_of {o : LOper} {k : Tm → Prop} {T : Tm} {L : List Blk} {v : AV} (h : AQv P o T L v) (hk : k (putT o.dst v T)) : GOp P L o k T := by
  unfold AQv at h
  unfold GOp
  split at h
  · rename_i e
    simp only [e]
    split at h
    · rename_i args ha; rw [ha]; exact ⟨v, h, hk⟩
    · exact h.elim
  · rename_i e
    simp only [e]
    split at h
    · rename_i g caps args hf ha; rw [hf, ha]; exact ⟨v, h, hk⟩
    · exact h.elim
  · rename_i lo h1 h2
    split at h
    · rename_i c av L' he
      obtain ⟨hc, rfl, rfl⟩ := h
      obtain ⟨d, op, g⟩ := o
      cases op
      case call => exact (h1 _ _ rfl).elim
      case callv => exact (h2 _ _ rfl).elim
      all_goals
        simp only at he
        simp only [GRes, he]
        first | exact ⟨hc, rfl, hk⟩ | exact ⟨hc, trivial, hk⟩
    · exact h.elim

mutual
theorem qL_sound {run : RunF} (hrun : RunOk P run) (L0 L : List Blk) : ∀ {l : List SOp} {T T' : Tm} {k : Tm → Prop}, sopsOk l = true → qL run L l T = some T' → k (shT L0.length T') → GL P (onto L0 L) l k (shT L0.length T)
  | [], T, T', k, _, h, hk => by
    simp only [qL, Option.some.injEq] at h
    subst h
    rw [GL_nil]; exact hk
  | s :: r, T, T', k, hok, h, hk => by
    simp only [sopsOk, Bool.and_eq_true] at hok
    simp only [qL] at h
    split at h
    · rename_i T1 h1
      rw [GL]
      exact qS_sound hrun L0 L (s := s) hok.1 h1 (qL_sound hrun L0 L (l := r) hok.2 h hk)
    · cases h
theorem qS_sound {run : RunF} (hrun : RunOk P run) (L0 L : List Blk) : ∀ {s : SOp} {T T' : Tm} {k : Tm → Prop}, s.okc = true → qS run L s T = some T' → k (shT L0.length T') → GO P (onto L0 L) s k (shT L0.length T)
  | .op o, T, T', k, hok, h, hk => by
    simp only [SOp.okc] at hok
    simp only [qS] at h
    split at h
    · rename_i v h1
      simp only [Option.some.injEq] at h
      subst h
      rw [GO]
      rw [← putT_sh] at hk
      exact GOp_of (qOp_sound hrun hok h1 L0) hk
    · cases h
  | .grp g t b body d x, T, T', k, hok, h, hk => by
    simp only [SOp.okc, Bool.and_eq_true] at hok
    simp only [qS] at h
    rw [GO]
    rw [look_sh]
    split at h
    · rename_i p hp
      rw [hp]
      simp only [Option.map_some, AV.sh, AV.ren]
      split at h
      · rename_i e
        split at h
        · rename_i T1 h1
          split at h
          · rename_i q hq
            simp only [Option.some.injEq] at h
            subst h
            refine ⟨q, fun _ => qL_sound hrun L0 L (l := body) hok.1 h1 ?_, ?_⟩
            · unfold IsX IsB
              rw [evX_sh hok.2, hq]; rfl
            · have : mrg b p q = q := by subst e; cases p <;> simp [mrg]
              rw [this]
              exact hk
          · cases h
        · cases h
      · rename_i e
        simp only [Option.some.injEq] at h
        subst h
        refine ⟨false, fun e' => absurd e' e, ?_⟩
        have : mrg b p false = !b := by cases b <;> cases p <;> simp_all [mrg]
        rw [this]
        exact hk
    · cases h
end

theorem xL_sound {call : CallF} {run : RunF} (hcall : CallOk P call) (hrun : RunOk P run) {K : Tm → List Blk → Prop} (L0 : List Blk) : ∀ {l : List SOp} {T T' : Tm} {L L' : List Blk}, sopsOk l = true → xL call run l T L = some (T', L') → K (shT L0.length T') (onto L0 L') → SL P l K (shT L0.length T) (onto L0 L)
  | [], T, T', L, L', _, h, hK => by
    simp only [xL, Option.some.injEq, Prod.mk.injEq] at h
    obtain ⟨rfl, rfl⟩ := h
    exact hK
  | .op o :: r, T, T', L, L', hok, h, hK => by
    simp only [sopsOk, SOp.okc, Bool.and_eq_true] at hok
    simp only [xL] at h
    split at h
    · rename_i v L1 h1
      have h2 := xG_sound hcall hok.1 h1 L0
      have h3 := xL_sound hcall hrun L0 (l := r) hok.2 h hK
      rw [← putT_sh] at h3
      exact h2.then (K := SL P r K) h3
    · cases h
  | .grp g t b body d x :: r, T, T', L, L', hok, h, hK => by
    simp only [sopsOk, Bool.and_eq_true] at hok
    simp only [xL] at h
    split at h
    · rename_i T1 h1
      have h3 := xL_sound hcall hrun L0 (l := r) hok.2 h hK
      have := qS_sound hrun L0 L (s := .grp g t b body d x) (k := fun T2 => SL P r K T2 (onto L0 L)) hok.1 h1 h3
      rw [GO] at this
      simp only [SL, GG]
      exact this
    · cases h

def shH (B : Nat) (H : List Kept) : List Kept := H.map fun y => (y.1, y.2.1, shT B y.2.2.1, y.2.2.2.sh B)
theorem shH_dec (B : Nat) : ∀ (H : List Kept), dec1 (shH B H) = shH B (dec1 H)
  | [] => rfl
  | (0, y) :: h => by simp only [shH, List.map_cons, dec1]; exact shH_dec B h
  | (1, y) :: h => by simp only [shH, List.map_cons, dec1]; exact shH_dec B h
  | (n + 2, y) :: h => by simp only [shH, List.map_cons, dec1]; rw [show dec1 (List.map _ h) = dec1 (shH B h) from rfl, shH_dec B h]; rfl
theorem shH_kept (B f : Nat) (o : LOper) (T : Tm) (v : AV) (H : List Kept) : kept f o (shT B T) (v.sh B) (shH B H) = shH B (kept f o T v H) := by
  cases f <;> rfl

theorem sameAt_ok {run : RunF} (hrun : RunOk P run) {o : LOper} {T : Tm} {v : AV} (hk : o.op.okc = true) (L0 : List Blk) : ∀ {Ls : List (List Blk)}, sameAt run o T v Ls = true → ∀ L ∈ Ls, AQ P o (shT L0.length T) (onto L0 L) (v.sh L0.length)
  | [], _, L, h => by cases h
  | M :: Ls, h, L, hL => by
    simp only [sameAt, Bool.and_eq_true] at h
    rcases List.mem_cons.1 hL with rfl | hL
    · have h1 := h.1
      split at h1
      · rename_i u hu
        rw [← AV.beq_eq h1]
        exact qG_sound hrun hk hu L0
      · cases h1
    · exact sameAt_ok hrun hk L0 h.2 L hL

theorem chkH_ok {run : RunF} (hrun : RunOk P run) (L0 L : List Blk) : ∀ {H : List Kept}, (∀ y ∈ H, y.2.1.op.okc = true) → chkH run L H = true → Rechk P (onto L0 L) (shH L0.length H)
  | [], _, _ => trivial
  | (f, o, T, v) :: H, hk, h => by
    simp only [chkH, Bool.and_eq_true] at h
    refine ⟨?_, chkH_ok hrun L0 L (fun y hy => hk y (List.mem_cons_of_mem _ hy)) h.2⟩
    have h1 := h.1
    split at h1
    · rename_i u hu
      rw [← AV.beq_eq h1]
      exact qG_sound hrun (hk _ (List.mem_cons_self ..)) hu L0
    · cases h1

theorem xD_sound {call : CallF} {run : RunF} (hcall : CallOk P call) (hrun : RunOk P run) {K : Tm → List Blk → Prop} (L0 : List Blk) : ∀ {qk : List (LOper × Kd)} {Ls : List (List Blk)} {H : List Kept} {T T' : Tm} {L' : List Blk}, opsOk (qk.map (·.1)) = true → (∀ y ∈ H, y.2.1.op.okc = true) →
    xD call run qk Ls H T = some (T', L') → K (shT L0.length T') (onto L0 L') → AG P K qk (Ls.map (onto L0)) (shH L0.length H) (shT L0.length T)
  | qk, [], H, T, T', L', _, _, h, _ => by
    rcases qk with _ | ⟨⟨o, kd⟩, r⟩
    · simp [xD] at h
    · cases kd <;> simp [xD] at h
  | [], L :: Ls, H, T, T', L', _, _, h, hK => by
    simp only [xD, Option.some.injEq, Prod.mk.injEq] at h
    obtain ⟨rfl, rfl⟩ := h
    exact hK
  | (o, .pure) :: r, L :: Ls, H, T, T', L', hok, hH, h, hK => by
    simp only [opsOk, List.map_cons, List.all_cons, Bool.and_eq_true] at hok
    simp only [xD] at h
    split at h
    · rename_i v h1
      have h3 := xD_sound hcall hrun L0 (qk := r) (Ls := L :: Ls) hok.2 hH h hK
      rw [← putT_sh] at h3
      exact ⟨_, qG_sound hrun hok.1 h1 L0, h3⟩
    · cases h
  | (o, .read n f) :: r, L :: Ls, H, T, T', L', hok, hH, h, hK => by
    simp only [opsOk, List.map_cons, List.all_cons, Bool.and_eq_true] at hok
    simp only [xD] at h
    split at h
    · rename_i v h1
      split at h
      · rename_i hs
        have hH' : ∀ y ∈ kept f o T v H, y.2.1.op.okc = true := fun y hy => by
          unfold kept at hy
          split at hy
          · exact hH y hy
          · rcases List.mem_cons.1 hy with rfl | hy
            · exact hok.1
            · exact hH y hy
        have h3 := xD_sound hcall hrun L0 (qk := r) (Ls := L :: Ls) hok.2 hH' h hK
        rw [← putT_sh, ← shH_kept] at h3
        refine ⟨_, fun M hM => ?_, h3⟩
        rw [List.take_succ_cons, ← List.map_take] at hM
        rcases List.mem_cons.1 hM with rfl | hM
        · exact qG_sound hrun hok.1 h1 L0
        · obtain ⟨M', hM', rfl⟩ := List.mem_map.1 hM
          exact sameAt_ok hrun hok.1 L0 hs M' hM'
      · cases h
    · cases h
  | (o, .eff) :: r, L :: Ls, H, T, T', L', hok, hH, h, hK => by
    simp only [opsOk, List.map_cons, List.all_cons, Bool.and_eq_true] at hok
    simp only [xD] at h
    split at h
    · rename_i v L2 h1
      split at h
      · rename_i hs
        have hH' : ∀ y ∈ dec1 H, y.2.1.op.okc = true := by
          have key : ∀ (H : List Kept) (y : Kept), y ∈ dec1 H → ∃ z ∈ H, z.2 = y.2 := by
            intro H
            induction H with
            | nil => intro y hy; cases hy
            | cons z H ih =>
              intro y hy
              obtain ⟨m, z⟩ := z
              rcases m with _ | _ | m
              · obtain ⟨z', h1, h2⟩ := ih y hy; exact ⟨z', List.mem_cons_of_mem _ h1, h2⟩
              · obtain ⟨z', h1, h2⟩ := ih y hy; exact ⟨z', List.mem_cons_of_mem _ h1, h2⟩
              · simp only [dec1] at hy
                rcases List.mem_cons.1 hy with rfl | hy
                · exact ⟨_, List.mem_cons_self .., rfl⟩
                · obtain ⟨z', h1, h2⟩ := ih y hy; exact ⟨z', List.mem_cons_of_mem _ h1, h2⟩
          intro y hy
          obtain ⟨z, h1, h2⟩ := key H y hy
          rw [← h2]; exact hH z h1
        have h3 := xD_sound hcall hrun L0 (qk := r) (Ls := L2 :: L :: Ls) hok.2 hH' h hK
        rw [← putT_sh, ← shH_dec] at h3
        exact ⟨_, _, xG_sound hcall hok.1 h1 L0, chkH_ok hrun L0 L2 hH hs, h3⟩
      · cases h
    · cases h

theorem sel_sh (B : Nat) : ∀ (m : List Bool) (T : Tm), sel m (shT B T) = shT B (sel m T)
  | [], T => by rw [sel_nil, sel_nil]
  | true :: m, [] => rfl
  | false :: m, [] => rfl
  | true :: m, x :: T => by simp only [shT, List.map_cons, sel_t]; rw [show sel m (List.map _ T) = sel m (shT B T) from rfl, sel_sh B m T]; rfl
  | false :: m, x :: T => by simp only [shT, List.map_cons, sel_f]; exact sel_sh B m T
theorem selB_sh (B : Nat) (m : List Bool) (T : Tm) : selB m (shT B T) = selB m T := by
  have key : ∀ (m' : List Bool) (T' : Tm), ((m'.zip (shT B T')).all fun p => p.1 || (look (sel m (shT B T)) p.2.1).isNone) = ((m'.zip T').all fun p => p.1 || (look (sel m T) p.2.1).isNone) := by
    intro m'
    induction m' with
    | nil => intro T'; rfl
    | cons b m' ih =>
      intro T'
      cases T' with
      | nil => rfl
      | cons x T' =>
        have := ih T'
        simp only [shT, List.map_cons, List.zip_cons_cons, List.all_cons] at this ⊢
        rw [this]
        congr 2
        have e := sel_sh B m T
        simp only [shT] at e
        rw [e]
        have e2 := look_sh (B := B) (T := sel m T) x.1
        simp only [shT] at e2
        rw [e2]
        cases look (sel m T) x.1 <;> rfl
  exact key m T
theorem frB_sh (B : Nat) (ds : List Nat) (T : Tm) : frB ds (shT B T) = frB ds T := by
  unfold frB
  congr 1
  funext d
  rw [look_sh]
  cases look T d <;> rfl

theorem xSel_some {mask : List Bool} {r : Option (Tm × List Blk)} {e : Exit} {T : Tm} {L : List Blk} (h : xSel mask r = some (e, T, L)) : ∃ T1, r = some (T1, L) ∧ selB mask T1 = true ∧ T = sel mask T1 ∧ e = .normal := by
  unfold xSel at h
  split at h
  · rename_i T1 L1
    split at h
    · rename_i hs
      simp only [Option.some.injEq, Prod.mk.injEq] at h
      obtain ⟨rfl, rfl, rfl⟩ := h
      exact ⟨T1, rfl, hs, rfl, rfl⟩
    · cases h
  · cases h

theorem cutT_mem {T' : Tm} : ∀ {T : Tm} {p : Nat × AV}, p ∈ cutT T' T → look T' p.1 = some p.2
  | [], p, h => by cases h
  | (t, u) :: T, p, h => by
    simp only [cutT] at h
    split at h
    · rename_i v hv
      rcases List.mem_cons.1 h with rfl | h
      · exact hv
      · exact cutT_mem h
    · exact cutT_mem h
theorem cutT_look {T' T : Tm} {t : Nat} {v : AV} (h : look (cutT T' T) t = some v) : look T' t = some v := cutT_mem (look_mem h)

theorem exec_sound {call : CallF} {run : RunF} (hcall : CallOk P call) (hrun : RunOk P run) {N : Nat} {own : Nat → Nat → Nat} (L0 : List Blk) : ∀ (n : Nat) {lc : LCode} {T T' : Tm} {L L' : List Blk} {e : Exit} {Q : Exit → Tm → List Blk → Prop}, lc.okc = true →
    exec call run n lc T L = some (e, T', L') → Q e (shT L0.length T') (onto L0 L') → AW P N own lc Q (shT L0.length T) (onto L0 L) := by
  intro n
  induction n using Nat.strongRecOn with
  | _ n ih =>
  intro lc T T' L L' e Q hok h hQ
  cases n with
  | zero => simp [exec] at h
  | succ n =>
  have ihn := fun {lc} {T} {T'} {L} {L'} {e} {Q} => ih n (Nat.lt_succ_self n) (lc := lc) (T := T) (T' := T') (L := L) (L' := L') (e := e) (Q := Q)
  cases lc <;> simp only [exec] at h <;> simp only [LCode.okc, Bool.and_eq_true] at hok
  case skip =>
    simp only [Option.some.injEq, Prod.mk.injEq] at h
    obtain ⟨rfl, rfl, rfl⟩ := h
    exact AW_skip hQ
  case exit id =>
    simp only [Option.some.injEq, Prod.mk.injEq] at h
    obtain ⟨rfl, rfl, rfl⟩ := h
    exact AW_exit hQ
  case ret =>
    simp only [Option.some.injEq, Prod.mk.injEq] at h
    obtain ⟨rfl, rfl, rfl⟩ := h
    exact AW_ret hQ
  case sreg sops mask =>
    split at h
    · rename_i hf
      obtain ⟨T1, h1, h2, rfl, rfl⟩ := xSel_some h
      refine AW_sreg (by rw [frB_sh]; exact hf) (xL_sound hcall hrun L0 hok h1 ⟨by rw [selB_sh]; exact h2, by rw [sel_sh]; exact hQ⟩)
    · cases h
  case sdreg sops kds mask =>
    split at h
    · rename_i hf
      obtain ⟨T1, h1, h2, rfl, rfl⟩ := xSel_some h
      simp only [Option.map_eq_some_iff, Prod.mk.injEq] at h1
      obtain ⟨T2, h3, rfl, rfl⟩ := h1
      refine AW_sdreg (by rw [frB_sh]; exact hf) (qL_sound hrun L0 L hok h3 ?_)
      exact ⟨by rw [selB_sh]; exact h2, by rw [sel_sh]; exact hQ⟩
    · cases h
  case dregM qk ts mask =>
    split at h
    · rename_i T1 L1 h1
      obtain ⟨T2, h3, h2, rfl, rfl⟩ := xSel_some h
      have := xD_sound hcall hrun (K := AOps P (SelK mask (Q .normal)) ts) L0 (qk := qk) (Ls := [L]) (H := []) hok.1 (fun y hy => by cases hy) h1 (xOps_sound hcall L0 hok.2 h3 ⟨by rw [selB_sh]; exact h2, by rw [sel_sh]; exact hQ⟩)
      exact AW_dregM this
    · cases h
  case region ops =>
    split at h
    · rename_i T1 L1 h1
      simp only [Option.some.injEq, Prod.mk.injEq] at h
      obtain ⟨rfl, rfl, rfl⟩ := h
      exact AW_region (xOps_sound hcall L0 hok h1 hQ)
    · cases h
  case dregion qk ts =>
    split at h
    · rename_i T1 L1 h1
      split at h
      · rename_i T2 L2 h2
        simp only [Option.some.injEq, Prod.mk.injEq] at h
        obtain ⟨rfl, rfl, rfl⟩ := h
        have := xD_sound hcall hrun (K := AOps P (Q .normal) ts) L0 (qk := qk) (Ls := [L]) (H := []) hok.1 (fun y hy => by cases hy) h1 (xOps_sound hcall L0 hok.2 h2 hQ)
        exact AW_dregion this
      · cases h
    · cases h
  case seq a b =>
    refine AW_seq ?_
    split at h
    · rename_i T1 L1 h1
      exact ihn hok.1 h1 (ihn hok.2 h hQ)
    · rename_i r hne
      refine ihn hok.1 h ?_
      cases e
      case normal => exact (hne _ _ h).elim
      all_goals exact hQ
  case cond x a b =>
    split at h
    · rename_i hx
      exact AW_cond (b := true) (by rw [evX_sh hok.1.1, hx]; rfl) (fun _ => ihn hok.1.2 h hQ) (fun e => by cases e)
    · rename_i hx
      exact AW_cond (b := false) (by rw [evX_sh hok.1.1, hx]; rfl) (fun e => by cases e) (fun _ => ihn hok.2 h hQ)
    · cases h
  case block id c =>
    refine AW_block ?_
    split at h
    · rename_i i T1 L1 h1
      refine ihn hok h1 ?_
      simp only [Qblock]
      split at h
      · rename_i e'
        simp only [Option.some.injEq, Prod.mk.injEq] at h
        obtain ⟨rfl, rfl, rfl⟩ := h
        rw [if_pos e']; exact hQ
      · rename_i e'
        simp only [Option.some.injEq, Prod.mk.injEq] at h
        obtain ⟨rfl, rfl, rfl⟩ := h
        rw [if_neg e']; exact hQ
    · rename_i r hne
      refine ihn hok h ?_
      cases e
      case exit => exact (hne _ _ _ h).elim
      all_goals exact hQ
  case loop c =>
    refine AW_loop (fun k T1 L1 => k ≤ n + 1 ∧ ∃ T M, (∀ t v, look (shT L0.length T) t = some v → look T1 t = some v) ∧ L1 = onto L0 M ∧ exec call run k (.loop c) T M = some (e, T', L')) (n0 := n + 1) ⟨Nat.le_refl _, T, L, fun _ _ h => h, rfl, by simp only [exec]; exact h⟩ ?_
    rintro k T0 _ ⟨hk, T1, M1, hw, rfl, hx⟩
    refine AW.weakT (T' := shT L0.length T1) ?_ hw
    cases k with
    | zero => simp [exec] at hx
    | succ k =>
      simp only [exec] at hx
      split at hx
      · rename_i T2 M2 h1
        refine ih k (by omega) hok h1 ⟨k, by omega, by omega, cutT T2 T1, M2, fun t v hv => ?_, rfl, hx⟩
        rw [look_sh] at hv ⊢
        obtain ⟨u, hu, rfl⟩ := Option.map_eq_some_iff.1 hv
        rw [cutT_look hu]; rfl
      · rename_i r hne
        refine ih k (by omega) hok hx ?_
        cases e
        case normal => exact (hne _ _ hx).elim
        all_goals exact hQ

theorem condR_ok {T : Tm} {L : List Blk} : ∀ {res : List LRes} {c : Prop} {rs : List AV}, resA T L res = some (c, rs) → condR T L res = true → c
  | [], c, rs, h, _ => by
    simp only [resA, Option.some.injEq, Prod.mk.injEq] at h
    obtain ⟨rfl, _⟩ := h; trivial
  | .tmp t :: l, c, rs, h, hc => by
    simp only [resA] at h
    simp only [condR] at hc
    split at h
    · rename_i v c' m h1 h2
      simp only [Option.some.injEq, Prod.mk.injEq] at h
      obtain ⟨rfl, _⟩ := h
      exact condR_ok h2 hc
    · cases h
  | .cell g sz t :: l, c, rs, h, hc => by
    simp only [resA] at h
    simp only [condR, Bool.and_eq_true] at hc
    split at h
    · rename_i r off c' m h1 h2
      rw [h1] at hc
      cases g
      · simp only [Bool.false_eq_true, if_false, Option.some.injEq, Prod.mk.injEq] at h hc
        obtain ⟨rfl, _⟩ := h
        exact ⟨by simpa using hc.1, condR_ok h2 hc.2⟩
      · simp only [if_true, Option.some.injEq, Prod.mk.injEq] at h hc
        obtain ⟨rfl, _⟩ := h
        exact ⟨by simpa using hc.1, condR_ok h2 hc.2⟩
    · cases h

theorem resA_sh {T : Tm} {L0 L : List Blk} : ∀ (res : List LRes), resA (shT L0.length T) (onto L0 L) res = (resA T L res).map fun r => (r.1, shL L0.length r.2)
  | [] => rfl
  | .tmp t :: l => by
    simp only [resA, look_sh, resA_sh l]
    cases look T t with
    | none => rfl
    | some v => cases resA T L l <;> rfl
  | .cell g sz t :: l => by
    simp only [resA, look_sh, resA_sh l]
    cases look T t with
    | none => rfl
    | some v =>
      simp only [Option.map_some, Option.bind_some, row_sh]
      cases row L v with
      | none => rfl
      | some r =>
        cases resA T L l with
        | none => rfl
        | some s =>
          cases g <;> simp only [Option.map_some, Bool.false_eq_true, if_true, if_false, shL_len, shL_getD, shL_drop, shL_take, shL, AV.renL, AV.sh, AV.ren]

theorem retA_sh (B : Nat) (l : List AV) : retA (shL B l) = (retA l).sh B := by
  rcases l with _ | ⟨a, _ | ⟨b, l⟩⟩ <;> rfl
theorem initT_sh (B : Nat) : ∀ (l : List AV) (i : Nat), initT i (shL B l) = shT B (initT i l)
  | [], _ => rfl
  | a :: l, i => by
    simp only [shL, AV.renL, initT]
    rw [show AV.renL (sf B) l = shL B l from rfl, initT_sh B l (i + 1)]
    rfl

/-- The table tells the program's bodies. -/
structure TabOk (P : Program) (own : FuncId → Nat → Nat → Nat) (tab : Tab) : Prop where
  fn : ∀ f lf, tab.fn f = some lf → lowF P (own f) f = some lf.raw ∧ lf.code.okc = true
  prim : ∀ f args v, tab.prim f args = some v → closedL args = true → closedA v = true → ∀ L, ACall P f args L fun av K => av = v ∧ K = L
  primL : ∀ f args L v L', tab.primL f args L = some (v, L') → ∀ L0 : List Blk, ACall P f (shL L0.length args) (onto L0 L) fun av K => av = v.sh L0.length ∧ K = onto L0 L'

theorem xBody_sound {own : FuncId → Nat → Nat → Nat} {tab : Tab} (hT : TabOk P own tab) {call : CallF} {run : RunF} (hcall : CallOk P call) (hrun : RunOk P run) {f : FuncId} {lf : LFun} (hf : tab.fn f = some lf) {args : List AV} {M M' : List Blk} {v : AV}
    (h : xBody tab call run lf args M = some (v, M')) (L0 : List Blk) {Q : AV → List Blk → Prop} (hQ : Fin (onto L0 M) (v.sh L0.length) (onto L0 M') Q) : ACall P f (shL L0.length args) (onto L0 M) Q := by
  obtain ⟨hlow, hok⟩ := hT.fn f lf hf
  unfold xBody at h
  split at h
  · rename_i hlen
    have fin : ∀ {e : Exit} {T : Tm} {L' : List Blk}, (e = .normal ∨ e = .ret) → exec call run tab.fuel lf.code (initT 0 args) M = some (e, T, L') → (match xRes T L' lf.res with
      | some v => some (v, L')
      | none => none) = some (v, M') → ACall P f (shL L0.length args) (onto L0 M) Q := fun {e T L'} he hx hr => by
      split at hr
      · rename_i u hu
        simp only [Option.some.injEq, Prod.mk.injEq] at hr
        obtain ⟨rfl, rfl⟩ := hr
        unfold xRes at hu
        split at hu
        · rename_i c rs hres
          split at hu
          · rename_i hc
            simp only [Option.some.injEq] at hu
            subst hu
            refine ACall_fn hlow (by rw [shL_len]; exact hlen) ?_
            rw [initT_sh]
            refine exec_sound hcall hrun L0 _ hok hx ⟨he, c, shL L0.length rs, ?_, condR_ok hres hc, ?_⟩
            · rw [resA_sh, hres]; rfl
            · rw [retA_sh]; exact hQ
          · cases hu
        · cases hu
      · cases hr
    split at h
    · rename_i T L' hx; exact fin (.inl rfl) hx h
    · rename_i T L' hx; exact fin (.inr rfl) hx h
    · cases h
  · cases h

theorem onto_nil (L0 : List Blk) : onto L0 [] = L0 := by simp [onto]

theorem runs_sound {own : FuncId → Nat → Nat → Nat} {tab : Tab} (hT : TabOk P own tab) : ∀ d, CallOk P (callN tab d) ∧ RunOk P (runN tab d)
  | 0 => ⟨fun f args L v L' h => by simp [callN] at h, fun f args v h => by simp [runN] at h⟩
  | d + 1 => by
    obtain ⟨hcall, hrun⟩ := runs_sound hT d
    have body : ∀ {f lf args L v L'}, tab.fn f = some lf → xBody tab (callN tab d) (runN tab d) lf args L = some (v, L') → ∀ L0 : List Blk, ACall P f (shL L0.length args) (onto L0 L) fun av K => av = v.sh L0.length ∧ K = onto L0 L' :=
      fun hf h L0 => xBody_sound hT hcall hrun hf h L0 (Fin_same ⟨rfl, rfl⟩)
    refine ⟨fun f args L v L' h L0 => ?_, fun f args v h => ?_⟩
    · simp only [callN] at h
      split at h
      · rename_i r hp
        simp only [Option.some.injEq] at h
        subst h
        exact hT.primL f args L v L' hp L0
      split at h
      · split at h
        · rename_i lf hf; exact body hf h L0
        · cases h
      · split at h
        · rename_i u hu
          simp only [Option.some.injEq, Prod.mk.injEq] at h
          obtain ⟨rfl, rfl⟩ := h
          obtain ⟨c1, c2, c3⟩ := hrun f args u hu
          rw [show shL L0.length args = args from renL_closed c1, show AV.sh L0.length u = u from ren_closed c2]
          exact c3 _
        · split at h
          · rename_i lf hf; exact body hf h L0
          · cases h
    · simp only [runN] at h
      split at h
      · rename_i hcl
        refine ⟨hcl, ?_⟩
        split at h
        · rename_i u hu
          split at h
          · rename_i hc
            simp only [Option.some.injEq] at h
            subst h
            exact ⟨hc, hT.prim f args _ hu hcl hc⟩
          · cases h
        · split at h
          · rename_i lf hf
            unfold pureOf at h
            split at h
            · rename_i r M' hx
              simp only at h
              split at h
              · rename_i hc
                simp only [Option.some.injEq] at h
                subst h
                refine ⟨hc, fun L => ?_⟩
                have := xBody_sound hT hcall hrun hf hx L (Q := fun av K => av = (snaps M' 0 r).frz ∧ K = L) (by
                  rw [onto_nil]
                  exact fin_snaps M' [] r hc ⟨rfl, rfl⟩)
                rwa [onto_nil, show shL L.length args = args from renL_closed hcl] at this
              · cases h
            · cases h
          · cases h
      · cases h

/-- What the interpreter says of a call with no blocks of the caller's. -/
theorem run_ACall {own : FuncId → Nat → Nat → Nat} {tab : Tab} (hT : TabOk P own tab) {d : Nat} {f : FuncId} {args : List AV} {v : AV} (h : runN tab d f args = some v) {L : List Blk} {K : AV → List Blk → Prop} (hK : K v L) : ACall P f args L K :=
  ACall.mono (((runs_sound hT d).2 f args v h).2.2 L) fun av K' ⟨e1, e2⟩ => by rw [e1, e2]; exact hK
end

end Go.Proofs.YtpednpndahgleaaGreatDoor.Av
