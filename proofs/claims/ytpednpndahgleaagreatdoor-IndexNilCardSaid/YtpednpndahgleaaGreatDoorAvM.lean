/- A lowered operation does what it is said to do. No program in sight. -/
import Derived.Test.YtpednpndahgleaaGreatDoorAvLi
set_option linter.unusedSimpArgs false
set_option linter.unusedVariables false
namespace Go.Proofs.YtpednpndahgleaaGreatDoor.Av
open Go

section
variable {P : Program} {w0 : World} {S0 : Nat → Prop} {E : Env} {L : List Blk} {w : World} {T : Tm} {a : Act}

def LOp.isCall : LOp → Bool
  | .call _ _ | .callv _ _ => true
  | _ => false

set_option maxHeartbeats 1000000 in
theorem evalOp_sound {own : Nat} {o : Oper} {lo : LOp} {c : Prop} {av : AV} {L' : List Blk} (hR : Rel w0 S0 E L w) (hT : TR E T a) (hl : lowOp P own o.op = some lo) (hnc : lo.isCall = false) (he : evalOp T L lo = some (c, av, L')) (hc : c) :
    Done P w0 S0 E L' av w (execOp a.eval o) := by
  obtain ⟨dst, op, ty, pos, after, guard⟩ := o
  cases op <;> simp only [lowOp] at hl <;> try cases hl
  case move x =>
    show Done P w0 S0 E L' av w (pure (.value (a.eval x)))
    rcases h1 : lowX x with _ | y <;> simp [h1] at hl
    subst hl
    simp only [evalOp] at he
    rcases h2 : evX T y with _ | u <;> simp only [h2, Option.map_none, Option.map_some, reduceCtorEq, Option.some.injEq, Prod.mk.injEq] at he
    obtain ⟨rfl, rfl, rfl⟩ := he
    exact .same hR rfl (evX_sound h1 h2 hT)
  case assign x =>
    show Done P w0 S0 E L' av w (pure (.value (a.eval x)))
    rcases h1 : lowX x with _ | y <;> simp [h1] at hl
    subst hl
    simp only [evalOp] at he
    rcases h2 : evX T y with _ | u <;> simp only [h2, Option.map_none, Option.map_some, reduceCtorEq, Option.some.injEq, Prod.mk.injEq] at he
    obtain ⟨rfl, rfl, rfl⟩ := he
    exact .same hR rfl (evX_sound h1 h2 hT)
  case pick x y z =>
    show Done P w0 S0 E L' av w (do pure (.value (if ← asBool (a.eval x) then a.eval y else a.eval z)))
    split at hl <;> try cases hl
    rename_i x' y' z' h1 h2 h3
    simp only [evalOp] at he
    split at he <;> try cases he
    all_goals
      rename_i h4
      have hx := evX_sound h1 h4 hT
      simp only [VR] at hx
    · rcases h5 : evX T y' with _ | u <;> simp only [h5, Option.map_none, Option.map_some, reduceCtorEq, Option.some.injEq, Prod.mk.injEq] at he
      obtain ⟨rfl, rfl, rfl⟩ := he
      exact .same hR (by simp [hx, asBool]) (evX_sound h2 h5 hT)
    · rcases h5 : evX T z' with _ | u <;> simp only [h5, Option.map_none, Option.map_some, reduceCtorEq, Option.some.injEq, Prod.mk.injEq] at he
      obtain ⟨rfl, rfl, rfl⟩ := he
      exact .same hR (by simp [hx, asBool]) (evX_sound h3 h5 hT)
  case alloc t =>
    show Done P w0 S0 E L' av w (do pure (.value (← Instr.alloc t true (.tuple #[]))))
    rcases h1 : zOf P t with _ | z <;> simp [h1] at hl
    subst hl
    simp only [evalOp, Option.some.injEq, Prod.mk.injEq] at he
    obtain ⟨rfl, rfl, rfl⟩ := he
    exact (good_alloc hR h1).done
  case box t x =>
    show Done P w0 S0 E L' av w (do pure (.value (← Instr.box t (a.eval x))))
    rcases h1 : lowX x with _ | y <;> simp [h1] at hl
    subst hl
    simp only [evalOp] at he
    rcases h2 : evX T y with _ | u
    · simp [h2] at he
    · simp only [h2, Option.bind_some] at he
      rcases h3 : u.cells? with _ | l <;> simp only [h3, reduceCtorEq, Option.some.injEq, Prod.mk.injEq] at he
      obtain ⟨rfl, rfl, rfl⟩ := he
      exact (good_newVar hR (cells?_sound h3 (evX_sound h1 h2 hT))).done
  case build t ps =>
    show Done P w0 S0 E L' av w (do pure (.value (← Instr.build t (ps.map fun (i, x) => (i, a.eval x)))))
    have hps : (ps.map fun (i, x) => (i, a.eval x)) = ⟨ps.toList.map fun (i, x) => (i, a.eval x)⟩ := by apply Array.ext'; simp
    rw [hps]
    split at hl <;> try cases hl
    rename_i d z hd hz
    split at hl <;> try cases hl
    · rename_i fs
      split at hl <;> try cases hl
      rename_i hk
      rcases hm : lowParts P (.struct fs) ps.toList with _ | m <;> simp only [hm, Option.map_none, Option.map_some, reduceCtorEq, Option.some.injEq] at hl
      subst hl
      simp only [evalOp] at he
      rcases hf : fillA T z m with _ | l <;> simp only [hf, Option.map_none, Option.map_some, reduceCtorEq, Option.some.injEq, Prod.mk.injEq] at he
      obtain ⟨rfl, rfl, rfl⟩ := he
      exact (good_buildS hT hR hd hz hk hm hf).done
    · rename_i n e
      split at hl <;> try cases hl
      rename_i hs
      rcases hm : lowParts P (.array n e) ps.toList with _ | m <;> simp only [hm, Option.map_none, Option.map_some, reduceCtorEq, Option.some.injEq] at hl
      subst hl
      simp only [evalOp] at he
      rcases hf : fillA T z m with _ | l <;> simp only [hf, Option.map_none, Option.map_some, reduceCtorEq, Option.some.injEq, Prod.mk.injEq] at he
      obtain ⟨rfl, rfl, rfl⟩ := he
      exact (good_buildA hT hR hd hz hm hs hf).done
  case buildSlice t n ps =>
    show Done P w0 S0 E L' av w (do pure (.value (← Instr.buildSlice t n (ps.map fun (i, x) => (i, a.eval x)))))
    have hps : (ps.map fun (i, x) => (i, a.eval x)) = ⟨ps.toList.map fun (i, x) => (i, a.eval x)⟩ := by apply Array.ext'; simp
    rw [hps]
    split at hl <;> try cases hl
    rename_i e hd
    split at hl <;> try cases hl
    rename_i s z m hs hz hm
    split at hl <;> try cases hl
    rename_i hk
    simp only [evalOp] at he
    rcases hf : fillA T (replC z n) m with _ | l <;> simp only [hf, reduceCtorEq] at he
    have := good_bslice (own := own == 2) hT hR hd hs hz hk.1 hk.2 hm hf
    split at he <;> simp only [Option.some.injEq, Prod.mk.injEq] at he <;> obtain ⟨rfl, rfl, rfl⟩ := he
    · rename_i ho
      rw [if_pos ho] at this
      exact this.done
    · rename_i ho
      rw [if_neg ho] at this
      exact this.done
  case load t x =>
    split at hl <;> try cases hl
    rename_i g s y h1 h2 h3
    exact snd_load hR hT h1 h2 h3 he hc
  case store t x y =>
    split at hl <;> try cases hl
    rename_i s p q h1 h2 h3
    exact snd_store hR hT h1 h2 h3 he hc
  case nilCheck x =>
    rcases h1 : lowX x with _ | y <;> simp [h1] at hl
    subst hl
    simp only [evalOp] at he
    split at he <;> try cases he
    all_goals
      rename_i h2
      have hx := evD_sound hR h1 h2 hT
    · have hx' := hx
      obtain ⟨p, hp⟩ := hx'.ptr_shape
      exact .same hR (by simp [execOp, hp]) hx
    · have hx' := hx
      obtain ⟨p, hp⟩ := hx'.iptr_shape
      exact .same hR (by simp [execOp, hp]) hx
    · have hx' := hx
      obtain ⟨p, hp⟩ := hx'.iface_shape
      exact .same hR (by simp [execOp, hp]) hx
    · have hx' := hx
      obtain ⟨p, hp⟩ := hx'.func_shape
      exact .same hR (by simp [execOp, hp]) hx
  case binOp op t x y u => exact snd_bin (u := u) hR hT hl he hc
  case unOp op t x =>
    show Done P w0 S0 E L' av w (do pure (.value (← Op.unary op (a.eval x))))
    rcases h1 : lowX x with _ | y <;> simp [h1] at hl
    subst hl
    simp only [evalOp] at he
    split at he <;> try cases he
    rename_i u h2
    rcases h3 : un op u with _ | r <;> simp only [h3, Option.map_none, Option.map_some, reduceCtorEq, Option.some.injEq, Prod.mk.injEq] at he
    obtain ⟨rfl, rfl, rfl⟩ := he
    exact (good_un hR (evX_sound h1 h2 hT) h3).done
  case convert s d x =>
    rcases h1 : lowX x with _ | y
    · simp [h1] at hl
    · simp only [h1, Option.bind_some] at hl
      exact snd_conv hR hT h1 hl he hc
  case makeInterface t x =>
    show Done P w0 S0 E L' av w (do pure (.value (← Instr.makeInterface t (a.eval x))))
    split at hl <;> try cases hl
    rename_i d hni hd
    rcases h1 : lowX x with _ | y <;> simp only [h1, Option.map_none, Option.map_some, reduceCtorEq, Option.some.injEq] at hl
    subst hl
    simp only [evalOp] at he
    rcases h2 : evX T y with _ | u <;> simp only [h2, Option.map_none, Option.map_some, reduceCtorEq, Option.some.injEq, Prod.mk.injEq] at he
    obtain ⟨rfl, rfl, rfl⟩ := he
    refine .same hR (v := .iface t (a.eval x)) ?_ ⟨_, rfl, evX_sound h1 h2 hT⟩
    simp only [Instr.makeInterface, Sem.run_bind, run_underlying hd, Result.andThen_ok]
    cases d <;> first | rfl | exact absurd hd (hni _)
  case makeFunc fn first caps =>
    show Done P w0 S0 E L' av w (do pure (.value (← Instr.makeFunc fn (first.map a.eval) (caps.map a.eval))))
    split at hl <;> try cases hl
    rename_i f
    split at hl <;> try cases hl
    rename_i hfirst
    rcases h1 : lowXs caps.toList with _ | ys <;> simp only [h1, Option.map_none, Option.map_some, reduceCtorEq, Option.some.injEq] at hl
    subst hl
    simp only [evalOp] at he
    rcases h2 : evXs T ys with _ | l <;> simp only [h2, Option.map_none, Option.map_some, reduceCtorEq, Option.some.injEq, Prod.mk.injEq] at he
    obtain ⟨rfl, rfl, rfl⟩ := he
    have hf : first = #[] := by simpa using hfirst
    subst hf
    refine .same hR (v := .func (.func f) #[] (caps.map a.eval)) (by simp [Instr.makeFunc]) ⟨caps.toList.map a.eval, ?_, evXs_sound h1 h2 hT⟩
    congr 1
    apply Array.ext'; simp
  case makeSlice t l c' =>
    show Done P w0 S0 E L' av w (do pure (.value (← Instr.makeSlice t (a.eval l) (a.eval c'))))
    split at hl <;> try cases hl
    rename_i e hd
    split at hl <;> try cases hl
    rename_i s b z l' c'' hs hb hz h1 h2
    split at hl <;> try cases hl
    rename_i hk
    simp only [evalOp] at he
    split at he <;> try cases he
    rename_i k1 n k2 m h3 h4
    have e1 := evX_sound h1 h3 hT
    have e2 := evX_sound h2 h4 hT
    simp only [VR] at e1 e2
    rw [e1, e2]
    exact (good_mkslice hR hd hs hb hz hk.1 hc.1 hc.2.1 hc.2.2.1 hc.2.2.2).done
  case slice t x lo' hi mx =>
    split at hl <;> try cases hl
    · rename_i x' lo'' hi' hd h1 h2 h3 h4
      have hmx : mx = none := by
        cases mx with
        | none => rfl
        | some m => simp [lowXo] at h4
      subst hmx
      show Done P w0 S0 E L' av w (do pure (.value (← Instr.sliceAt t (a.eval x) (lo'.map a.eval) (hi.map a.eval) none)))
      simp only [evalOp] at he
      split at he <;> try cases he
      rename_i s r1 r2 h5 h6 h7
      exact (good_slS hR hd (evX_sound h1 h5 hT) (bnd_ok hT h2 h6) (bnd_ok hT h3 h7) hc.1 hc.2.1 hc.2.2).done
    · rename_i e x' lo'' hi' mx' hd h1 h2 h3 h4
      rcases hs : szOf P e with _ | s <;> simp only [hs, Option.map_none, Option.map_some, reduceCtorEq, Option.some.injEq] at hl
      subst hl
      exact snd_slV hR hT hd hs h1 h2 h3 h4 he hc
    · rename_i n e x' lo'' hi' hd h1 h2 h3 h4
      rcases hs : szOf P e with _ | s <;> simp only [hs, Option.map_none, Option.map_some, reduceCtorEq, Option.some.injEq] at hl
      subst hl
      have hmx : mx = none := by
        cases mx with
        | none => rfl
        | some m => simp [lowXo] at h4
      subst hmx
      exact snd_slA hR hT hd hs h1 h2 h3 he hc
  case fieldAddr t x f =>
    split at hl <;> try cases hl
    rename_i fs x' hd h1
    split at hl <;> try cases hl
    rename_i fd hf
    split at hl <;> try cases hl
    rename_i hz
    exact snd_faddr hR hT hd hf hz h1 he
  case field t x f =>
    split at hl <;> try cases hl
    rename_i fs x' hd h1
    split at hl <;> try cases hl
    rename_i fd hf
    split at hl <;> try cases hl
    rename_i g s hg hs
    exact snd_field hR hT hd hf hg hs h1 he hc
  case indexAddr t x i =>
    split at hl <;> try cases hl
    · rename_i e x' i' hd h1 h2
      rcases hs : szOf P e with _ | s <;> simp only [hs, Option.map_none, Option.map_some, reduceCtorEq, Option.some.injEq] at hl
      subst hl
      exact snd_iaddr hR hT hd hs h1 h2 he hc
    · rename_i n e x' i' hd h1 h2
      rcases hs : szOf P e with _ | s <;> simp only [hs, Option.map_none, Option.map_some, reduceCtorEq, Option.some.injEq] at hl
      subst hl
      exact snd_iaddrA hR hT hd hs h1 h2 he hc
  case index t x i =>
    show Done P w0 S0 E L' av w (do pure (.value (← Instr.index t (a.eval x) (a.eval i))))
    split at hl <;> try cases hl
    rename_i x' i' hd h1 h2
    simp only [evalOp] at he
    split at he <;> try cases he
    rename_i s k n h3 h4
    have e2 := evX_sound h2 h4 hT
    simp only [VR] at e2
    rw [e2]
    exact (good_idxS hR hd (evX_sound h1 h3 hT) hc.1 hc.2).done
  case extract x i =>
    show Done P w0 S0 E L' av w (do pure (.value (← Instr.extract (a.eval x) i)))
    rcases h1 : lowX x with _ | y <;> simp [h1] at hl
    subst hl
    simp only [evalOp] at he
    split at he <;> try cases he
    rename_i l h2
    rcases h3 : l[i]? with _ | u <;> simp only [h3, Option.map_none, Option.map_some, reduceCtorEq, Option.some.injEq, Prod.mk.injEq] at he
    obtain ⟨rfl, rfl, rfl⟩ := he
    exact (good_extract hR (evX_sound h1 h2 hT) h3).done
  case makeMap t r =>
    show Done P w0 S0 E L' av w (do pure (.value (← Instr.makeMap t (r.map a.eval))))
    cases r with
    | some x => simp at hl
    | none =>
      simp only at hl
      split at hl <;> try cases hl
      rename_i kt et hd
      simp only [evalOp, Option.some.injEq, Prod.mk.injEq] at he
      obtain ⟨rfl, rfl, rfl⟩ := he
      exact (good_mkmap hR hd).done
  case lookup t m k ok =>
    show Done P w0 S0 E L' av w (do pure (.value (← Instr.lookup t (a.eval m) (a.eval k) ok)))
    split at hl <;> try cases hl
    rename_i kt et m' k' hd h1 h2
    split at hl <;> try cases hl
    rename_i kd z h3 h4
    simp only [evalOp] at he
    split at he <;> try cases he
    · rename_i kv h5 h6
      split at he <;> cases he
      rename_i hf
      exact (good_mgetN ok hR hd h3 h4 (evX_sound h1 h5 hT) hf (evX_sound h2 h6 hT)).done
    · rename_i i kv h5 h6
      split at he <;> try cases he
      rename_i es ck h7
      split at he <;> try cases he
      rename_i hf
      have go := fun r av hm hav => (good_mget (P := P) (r := r) (av := av) ok hR hd h3 h4 h7 (evX_sound h1 h5 hT) hf (evX_sound h2 h6 hT) hm hav).done
      split at he <;> cases he
      · rename_i j v hm; exact go _ _ hm rfl
      · rename_i hm; exact go _ _ hm rfl
  case mapUpdate t m k v =>
    show Done P w0 S0 E L' av w (do Instr.mapUpdate t (a.eval m) (a.eval k) (a.eval v); pure .skip)
    split at hl <;> try cases hl
    rename_i kt et m' k' v' hd h1 h2 h3
    rcases h4 : lowKey P kt with _ | kd <;> simp [h4] at hl
    subst hl
    simp only [evalOp] at he
    split at he <;> try cases he
    rename_i i kv x h5 h6 h7
    split at he <;> try cases he
    rename_i es ck h8
    split at he <;> try cases he
    rename_i hf
    have go := fun r hm => good_mset (P := P) (r := r) hR hd h4 h8 (evX_sound h1 h5 hT) hf (evX_sound h2 h6 hT) (evX_sound h3 h7 hT) hm
    split at he <;> cases he
    · rename_i j y hm
      obtain ⟨w', g1, g2⟩ := go _ hm
      exact ⟨E, undef, w', .inr ⟨by simp [g1], rfl⟩, .refl E, by simp [VR], g2⟩
    · rename_i hm
      obtain ⟨w', g1, g2⟩ := go _ hm
      exact ⟨E, undef, w', .inr ⟨by simp [g1], rfl⟩, .refl E, by simp [VR], g2⟩
  case range t x =>
    show Done P w0 S0 E L' av w (do pure (.value (← Instr.range t (a.eval x))))
    split at hl <;> try cases hl
    · rename_i hd
      rcases h1 : lowX x with _ | y <;> simp [h1] at hl
      subst hl
      simp only [evalOp] at he
      split at he <;> try cases he
      rename_i s h2
      exact (good_rangeS hR hd (evX_sound h1 h2 hT)).done
    · rename_i kt et hd
      rcases h1 : lowX x with _ | y <;> simp [h1] at hl
      subst hl
      simp only [evalOp] at he
      split at he <;> try cases he
      · rename_i h2
        exact (good_mrangeN hR hd (evX_sound h1 h2 hT)).done
      · rename_i i h2
        split at he <;> cases he
        rename_i es ck h3
        exact (good_mrange hR hd h3 (evX_sound h1 h2 hT)).done
  case entry x =>
    show Done P w0 S0 E L' av w (do pure (.value (← Instr.entry (a.eval x))))
    rcases h1 : lowX x with _ | y <;> simp [h1] at hl
    subst hl
    simp only [evalOp] at he
    split at he <;> try cases he
    rename_i i h2
    split at he <;> try cases he
    rename_i j since seen st h3
    split at he <;> try cases he
    rename_i es ck h4
    split at he <;> cases he
    rename_i e h5
    exact (good_mentry hR h3 h4 (evX_sound h1 h2 hT) h5).done
  case next x isS =>
    show Done P w0 S0 E L' av w (do pure (.value (← Instr.next (a.eval x) isS ty)))
    by_cases hS : isS = true
    case neg =>
      rw [if_neg hS] at hl
      have hS' : isS = false := by simpa using hS
      subst hS'
      rcases h1 : lowX x with _ | y <;> simp [h1] at hl
      subst hl
      simp only [evalOp] at he
      split at he <;> try cases he
      rename_i i h2
      split at he <;> try cases he
      · rename_i h3
        exact (good_mnextN hR h3 (evX_sound h1 h2 hT)).done
      · rename_i j since seen last h3
        split at he <;> try cases he
        rename_i es ck h4
        split at he <;> cases he
        rename_i r h5
        exact (good_mnext hR h3 h4 (evX_sound h1 h2 hT) h5).done
    rw [if_pos hS] at hl
    subst hS
    rcases h1 : lowX x with _ | y <;> simp [h1] at hl
    subst hl
    simp only [evalOp] at he
    split at he <;> try cases he
    rename_i i h2
    split at he <;> try cases he
    rename_i s p h3
    have key := good_nextS (P := P) (t := ty) hR h3 (evX_sound h1 h2 hT)
    split at he <;> cases he
    · rename_i hp
      rw [if_pos hp, if_pos hp] at key
      exact key.done
    · rename_i hp
      rw [if_neg hp, if_neg hp] at key
      exact key.done
  case call c' =>
    obtain ⟨callee, args, ats⟩ := c'
    split at hl <;> try cases hl
    rename_i xs hx
    split at hl <;> try cases hl
    · simp [LOp.isCall] at hnc
    · rename_i x _ _
      rcases h1 : lowX x with _ | y <;> simp only [h1, Option.map_none, Option.map_some, reduceCtorEq, Option.some.injEq] at hl
      subst hl
      simp [LOp.isCall] at hnc
    · rename_i b hb
      simp only at hb hx hl
      subst hb
      have : execOp a.eval { dst, op := .call { callee := .builtin b, args, argTypes := ats }, type := ty, pos, after, guard } = builtin b ⟨ats.toList⟩ ty (args.map fun | .const _ => true | _ => false) ⟨args.toList.map a.eval⟩ := by
        simp only [execOp, resolve, pure_bind, invoke]
        congr 1
        apply Array.ext'; simp
      rw [this]
      exact snd_builtin hR hT hx hl he hc fun e => by subst e; exact snd_del hR hT hx hl he

end
end Go.Proofs.YtpednpndahgleaaGreatDoor.Av
