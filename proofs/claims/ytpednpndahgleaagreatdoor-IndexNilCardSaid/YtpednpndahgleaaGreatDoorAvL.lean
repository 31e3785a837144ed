/- Each lowered operation does what it is said to do: the law. No program in sight. -/
import Derived.Test.YtpednpndahgleaaGreatDoorAvK
set_option linter.unusedSimpArgs false
set_option linter.unusedVariables false
namespace Go.Proofs.YtpednpndahgleaaGreatDoor.Av
open Go

section
variable {P : Program} {w0 : World} {S0 : Nat → Prop} {E : Env} {L : List Blk} {w : World} {T : Tm} {a : Act}

theorem snd_conv {own : Nat} {s d : TypeId} {x : Operand} {x' : Opd} {lo : LOp} {c : Prop} {av : AV} {L' : List Blk} (hR : Rel w0 S0 E L w) (hT : TR E T a) (hx : lowX x = some x') (hl : lowConv P own s d x' = some lo) (he : evalOp T L lo = some (c, av, L')) (hc : c) :
    Done P w0 S0 E L' av w (do pure (.value (← convert s d (a.eval x)))) := by
  unfold lowConv at hl
  split at hl
  · rename_i j k hs hd
    cases hl
    simp only [evalOp] at he
    split at he <;> try cases he
    rename_i q n h1
    exact (good_conv hR ⟨j, hs⟩ hd (evX_sound hx h1 hT)).done
  · rename_i hs hd
    cases hl
    simp only [evalOp] at he
    split at he <;> try cases he
    rename_i l h1
    exact (good_sconv hR hs hd (evX_sound hx h1 hT) ⟨l, rfl⟩).done
  · rename_i e hs hd
    split at hl <;> try cases hl
    rename_i he'
    simp only [evalOp] at he
    split at he <;> try cases he
    rename_i u hn h1
    split at he <;> try cases he
    rename_i c' l n h2
    exact (good_b2s hR hs he' hd (evX_sound hx h1 hT) h2 hc.1 hc.2 (fun t e => hn t e)).done
  · rename_i e hs hd
    split at hl <;> try cases hl
    rename_i he'
    split at hl <;> cases hl
    · simp only [evalOp] at he
      split at he <;> try cases he
      rename_i s' h1
      exact (good_s2bO hR hs hd he' (evX_sound hx h1 hT)).done
    · simp only [evalOp] at he
      split at he <;> try cases he
      rename_i s' h1
      exact (good_s2b hR hs hd he' (evX_sound hx h1 hT)).done
  · cases hl

theorem args_of {xs : List Operand} {ys : List Opd} (h : lowXs xs = some ys) : ys.length = xs.length ∧ ∀ (i : Nat) (y : Opd), ys[i]? = some y → ∃ x, xs[i]? = some x ∧ lowX x = some y := by
  induction xs generalizing ys with
  | nil => simp [lowXs] at h; subst h; simp
  | cons x xs ih =>
    simp only [lowXs, List.mapM_cons] at h
    rcases h1 : lowX x with _ | y
    · simp [h1] at h
    · rcases h2 : xs.mapM lowX with _ | ys'
      · simp [h1, h2] at h
      · simp [h1, h2] at h; subst h
        have := ih (by simpa [lowXs] using h2)
        refine ⟨by simp [this.1], fun i z hz => ?_⟩
        cases i with
        | zero => simp at hz; subst hz; exact ⟨x, by simp, h1⟩
        | succ i => simpa using this.2 i z (by simpa using hz)

theorem args1 {xs : List Operand} {y : Opd} (h : lowXs xs = some [y]) : ∃ x, xs = [x] ∧ lowX x = some y := by
  have := args_of h
  match xs, this with
  | [x], ⟨_, h2⟩ =>
    obtain ⟨z, h3, h4⟩ := h2 0 y (by simp)
    simp at h3; subst h3
    exact ⟨x, rfl, h4⟩

theorem args2 {xs : List Operand} {y z : Opd} (h : lowXs xs = some [y, z]) : ∃ u v, xs = [u, v] ∧ lowX u = some y ∧ lowX v = some z := by
  have := args_of h
  match xs, this with
  | [u, v], ⟨_, h2⟩ =>
    obtain ⟨p, h3, h4⟩ := h2 0 y (by simp)
    simp at h3; subst h3
    obtain ⟨q, h5, h6⟩ := h2 1 z (by simp)
    simp at h5; subst h5
    exact ⟨u, v, rfl, h4, h6⟩

theorem snd_len {own : Nat} {t : TypeId} {y : Opd} {xs : List Operand} {ty : TypeId} {cs : Array Bool} {lo : LOp} {c : Prop} {av : AV} {L' : List Blk} (hR : Rel w0 S0 E L w) (hT : TR E T a) (hx : lowXs xs = some [y])
    (hl : lowBuiltin P own .len [t] [y] = some lo) (he : evalOp T L lo = some (c, av, L')) : Done P w0 S0 E L' av w (builtin .len ⟨[t]⟩ ty cs ⟨xs.map a.eval⟩) := by
  obtain ⟨x, rfl, hx'⟩ := args1 hx
  have run : ∀ (n : Int), (Builtin.len_ #[t] ty #[a.eval x]).run P w = .ok (.int .i64 n) w → Done P w0 S0 E L (.int .i64 n) w (builtin .len ⟨[t]⟩ ty cs ⟨[x].map a.eval⟩) := fun n h => .same hR (v := .int .i64 n) (by simp [builtin, h]) (by simp [VR])
  simp only [lowBuiltin] at hl
  split at hl
  · rename_i hd
    cases hl
    simp only [evalOp] at he
    split at he <;> try cases he
    rename_i s h1
    have hv := evX_sound hx' h1 hT
    simp only [VR] at hv
    have hsz : (ByteArray.mk ⟨s⟩).size = s.length := rfl
    exact run _ (by simp only [Builtin.len_, List.getElem?_toArray, List.getElem?_cons_zero, Sem.run_bind, run_underlying hd, Result.andThen_ok, hv, goInt, hsz, Sem.run_pure])
  · rename_i e hd
    cases hl
    simp only [evalOp] at he
    split at he <;> try cases he
    all_goals rename_i h1; have hv := evX_sound hx' h1 hT
    · simp only [VR] at hv
      exact run _ (by simp [Builtin.len_, run_underlying hd, hv, goInt])
    · simp only [VR] at hv
      obtain ⟨_, _, hv, _⟩ := hv
      exact run _ (by simp [Builtin.len_, run_underlying hd, hv, goInt])
    · simp only [VR] at hv
      obtain ⟨_, _, hv, _⟩ := hv
      exact run _ (by simp [Builtin.len_, run_underlying hd, hv, goInt])
    · obtain ⟨_, _, hv⟩ := hv.lsl_shape
      exact run _ (by simp [Builtin.len_, run_underlying hd, hv, goInt])
  · rename_i n e hd
    cases hl
    simp only [evalOp, evX, Option.map_some, Option.some.injEq, Prod.mk.injEq] at he
    obtain ⟨rfl, rfl, rfl⟩ := he
    exact run _ (by simp [Builtin.len_, run_underlying hd, goInt])
  · rename_i kt et hd
    cases hl
    simp only [evalOp] at he
    split at he <;> try cases he
    all_goals rename_i h1; have hv := evX_sound hx' h1 hT
    · simp only [VR] at hv
      exact run _ (by simp [Builtin.len_, run_underlying hd, hv, goInt])
    · split at he <;> try cases he
      rename_i es ck h2
      simp only [VR] at hv
      obtain ⟨d, hd1, hv⟩ := hv
      obtain ⟨d', rs, g1, g2, g3⟩ := hR.blk _ _ h2
      rw [hd1] at g1; cases g1
      have hlen : ∀ {es : List (AV × AV × Nat)} {rs : List MapEntry}, MapRel E es rs → rs.length = es.length := by
        intro es
        induction es with
        | nil => intro rs h; simp only [MapRel] at h; subst h; rfl
        | cons p es ih => intro rs h; obtain ⟨q, y, b⟩ := p; obtain ⟨f, s, rfl, _, _, _, g4⟩ := h; simp [ih g4]
      have hg : (getObj d.blk).run P w = .ok (.map rs ck) w := by simp [getObj, Sem.run, g2]
      have hl2 : rs.size = es.length := by rw [← hlen g3]; simp
      exact run _ (by simp [Builtin.len_, run_underlying hd, hv, goInt, hg, hl2])
  · cases hl

theorem snd_cap {own : Nat} {t : TypeId} {y : Opd} {xs : List Operand} {ty : TypeId} {cs : Array Bool} {lo : LOp} {c : Prop} {av : AV} {L' : List Blk} (hR : Rel w0 S0 E L w) (hT : TR E T a) (hx : lowXs xs = some [y])
    (hl : lowBuiltin P own .cap [t] [y] = some lo) (he : evalOp T L lo = some (c, av, L')) : Done P w0 S0 E L' av w (builtin .cap ⟨[t]⟩ ty cs ⟨xs.map a.eval⟩) := by
  obtain ⟨x, rfl, hx'⟩ := args1 hx
  have run : ∀ (n : Int), (Builtin.cap_ #[t] ty #[a.eval x]).run P w = .ok (.int .i64 n) w → Done P w0 S0 E L (.int .i64 n) w (builtin .cap ⟨[t]⟩ ty cs ⟨[x].map a.eval⟩) := fun n h => .same hR (v := .int .i64 n) (by simp [builtin, h]) (by simp [VR])
  simp only [lowBuiltin] at hl
  split at hl
  · rename_i e hd
    cases hl
    simp only [evalOp] at he
    split at he <;> try cases he
    all_goals rename_i h1; have hv := evX_sound hx' h1 hT; simp only [VR] at hv
    · exact run _ (by simp [Builtin.cap_, run_underlying hd, hv, goInt])
    · obtain ⟨_, _, hv, _, hk, _⟩ := hv
      exact run _ (by simp [Builtin.cap_, run_underlying hd, hv, goInt, hk _ rfl])
    · obtain ⟨_, _, _, _, hv, _, _, hk, _⟩ := hv
      exact run _ (by simp [Builtin.cap_, run_underlying hd, hv, goInt, hk _ rfl])
  · rename_i n e hd
    cases hl
    simp only [evalOp, evX, Option.map_some, Option.some.injEq, Prod.mk.injEq] at he
    obtain ⟨rfl, rfl, rfl⟩ := he
    exact run _ (by simp [Builtin.cap_, run_underlying hd, goInt])
  · cases hl

theorem snd_builtin {own : Nat} {b : Builtin} {ts : List TypeId} {xs : List Operand} {ys : List Opd} {ty : TypeId} {cs : Array Bool} {lo : LOp} {c : Prop} {av : AV} {L' : List Blk} (hR : Rel w0 S0 E L w) (hT : TR E T a) (hx : lowXs xs = some ys)
    (hl : lowBuiltin P own b ts ys = some lo) (he : evalOp T L lo = some (c, av, L')) (hc : c) (hdel : b = .delete → Done P w0 S0 E L' av w (builtin b ⟨ts⟩ ty cs ⟨xs.map a.eval⟩)) : Done P w0 S0 E L' av w (builtin b ⟨ts⟩ ty cs ⟨xs.map a.eval⟩) := by
  have hl0 := hl
  unfold lowBuiltin at hl
  split at hl
  · exact snd_len hR hT hx hl0 he
  · exact snd_cap hR hT hx hl0 he
  · -- append
    rename_i t t' y z
    obtain ⟨u, v, rfl, hu, hv⟩ := args2 hx
    have key : ∀ e s by' zz, P.underlying t = some (.slice e) → ((∃ e', P.underlying t' = some (.slice e')) ∨ P.underlying t' = some .string) → szOf P e = some s → byOf P e = some by' → zOf P e = some zz → zz.length = s → lo = .app own s by' zz y z →
        Done P w0 S0 E L' av w (builtin .append ⟨[t, t']⟩ ty cs ⟨[u, v].map a.eval⟩) := fun e s by' zz h1 h2 h3 h4 h5 h6 hlo => by
      subst hlo
      simp only [evalOp] at he
      split at he <;> try cases he
      rename_i p q h7 h8
      exact (good_app hR h1 h2 h3 h4 h5 h6 (evX_sound hu h7 hT) (evX_sound hv h8 hT) he hc).done
    split at hl
    · rename_i e e' h1 h2
      split at hl <;> try cases hl
      rename_i s by' zz h3 h4 h5
      split at hl <;> try cases hl
      rename_i h6
      exact key e s by' zz h1 (.inl ⟨_, h2⟩) h3 h4 h5 h6 rfl
    · rename_i e h1 h2
      split at hl <;> try cases hl
      rename_i s by' zz h3 h4 h5
      split at hl <;> try cases hl
      rename_i h6
      exact key e s by' zz h1 (.inr h2) h3 h4 h5 h6 rfl
    · rename_i e q h1 h2
      split at hl <;> try cases hl
      rename_i s by' zz h3 h4 h5
      split at hl <;> try cases hl
      rename_i h6
      simp only [evalOp] at he
      split at he <;> try cases he
      rename_i i off m cp s2 q2 k h7 h8
      split at he <;> try cases he
      rename_i l hL
      split at he <;> try cases he
      rename_i hss; subst hss
      exact (good_appz hR h1 h2 h3 h4 h5 h6 (evX_sound hu h7 hT) (evX_sound hv h8 hT) hL hc).done
    · cases hl
  · -- copy
    rename_i t t' y z
    obtain ⟨u, v, rfl, hu, hv⟩ := args2 hx
    split at hl <;> try cases hl
    rename_i e hd
    rcases hs : szOf P e with _ | s
    · simp [hs] at hl
    · simp only [hs, Option.map_some, Option.some.injEq] at hl; subst hl
      simp only [evalOp] at he
      rcases h8 : evX T z with _ | q
      · simp only [h8, Option.bind_none] at he
        split at he <;> simp_all
      · simp only [h8, Option.bind_some] at he
        split at he
        · rename_i c' new n h7 h9
          simp only [Option.some.injEq, Prod.mk.injEq] at he
          obtain ⟨rfl, rfl, rfl⟩ := he
          exact ((good_copy hR hd hs (evX_sound hu h7 hT) (evX_sound hv h8 hT) h9 hc).1 rfl).done
        · rename_i i off m cap s' c' new n h7 h9
          split at he <;> try cases he
          rename_i l hL
          split at he <;> try cases he
          rename_i hss; subst hss
          exact ((good_copy hR hd hs (evX_sound hu h7 hT) (evX_sound hv h8 hT) h9 hc.1).2 _ _ _ _ _ rfl hL hc.2.1 hc.2.2).done
        · cases he
  · -- clear
    rename_i t y
    obtain ⟨u, rfl, hu⟩ := args1 hx
    split at hl <;> try cases hl
    rename_i e hd
    split at hl <;> try cases hl
    rename_i s zz h3 h5
    split at hl <;> try cases hl
    rename_i h6
    simp only [evalOp] at he
    split at he <;> try cases he
    · rename_i h7
      exact ((good_clear hR hd h3 h5 h6 (evX_sound hu h7 hT)).1 rfl).done
    · rename_i i off m cap s' h7
      split at he <;> try cases he
      rename_i l hL
      split at he <;> try cases he
      rename_i hss; subst hss
      exact ((good_clear hR hd h3 h5 h6 (evX_sound hu h7 hT)).2 _ _ _ _ _ rfl hL hc).done
  · exact hdel rfl
  · -- max
    rename_i y z
    obtain ⟨u, v, rfl, hu, hv⟩ := args2 hx
    cases hl
    simp only [evalOp] at he
    split at he <;> try cases he
    rename_i k m k' n h7 h8
    have e1 := evX_sound hu h7 hT
    have e2 := evX_sound hv h8 hT
    simp only [VR] at e1 e2
    refine .same hR (v := .int k (if n > m then n else m)) ?_ (by simp [VR])
    simp [builtin, Builtin.max_, Builtin.max2, e1, e2]
  · rename_i y z
    obtain ⟨u, v, rfl, hu, hv⟩ := args2 hx
    cases hl
    simp only [evalOp] at he
    split at he <;> try cases he
    rename_i k m k' n h7 h8
    have e1 := evX_sound hu h7 hT
    have e2 := evX_sound hv h8 hT
    simp only [VR] at e1 e2
    refine .same hR (v := .int k (if n < m then n else m)) ?_ (by simp [VR])
    simp [builtin, Builtin.min_, Builtin.min2, e1, e2]
  · cases hl

end
end Go.Proofs.YtpednpndahgleaaGreatDoor.Av
