/- Each lowered operation does what it is said to do: all together. No program in sight. -/
import Derived.Test.YtpednpndahgleaaGreatDoorAvJ
set_option linter.unusedSimpArgs false
set_option linter.unusedVariables false
namespace Go.Proofs.YtpednpndahgleaaGreatDoor.Av
open Go

section
variable {P : Program} {w0 : World} {S0 : Nat → Prop} {E : Env} {L : List Blk} {w : World} {T : Tm} {a : Act}

theorem Done.same {av : AV} {v : Value} {s : Sem Next} (hR : Rel w0 S0 E L w) (h : s.run P w = .ok (.value v) w) (hv : VR E av v) : Done P w0 S0 E L av w s := ⟨E, v, w, .inl h, .refl E, hv, hR⟩

theorem lowXs_none {l : List Operand} (h : lowXs l = some []) : l = [] := by
  cases l with
  | nil => rfl
  | cons x l =>
    simp only [lowXs, List.mapM_cons] at h
    rcases h1 : lowX x with _ | y
    · simp [h1] at h
    · rcases h2 : l.mapM lowX with _ | ys <;> simp [h1, h2] at h

theorem bnd_ok {x : Option Operand} {y : Option Opd} {r : Option Int} (hT : TR E T a) (h : lowXo x = some y) (hb : bnd T y = some r) : BndOk a x r := bnd_run hT h hb

theorem snd_load {t : TypeId} {x : Operand} {g : Bool} {s : Nat} {y : Opd} {c : Prop} {av : AV} {L' : List Blk} (hR : Rel w0 S0 E L w) (hT : TR E T a) (hg : isAggT P t = some g) (hs : szOf P t = some s) (hx : lowX x = some y)
    (he : evalOp T L (.load g s y) = some (c, av, L')) (hc : c) : Done P w0 S0 E L' av w (do pure (.value (← Instr.loadAt t (a.eval x)))) := by
  simp only [evalOp] at he
  rcases h1 : evD T y with _ | u
  · simp [h1] at he
  · simp only [h1, Option.bind_some] at he
    rcases h2 : row L u with _ | ⟨l, off⟩
    · simp [h2] at he
    · simp only [h2] at he
      have hv := evD_sound hR hx h1 hT
      cases g
      · simp only [Bool.false_eq_true, if_false, Option.some.injEq, Prod.mk.injEq] at he
        obtain ⟨rfl, rfl, rfl⟩ := he
        exact (good_load1 hR hg h2 hv hc).done
      · simp only [if_true, Option.some.injEq, Prod.mk.injEq] at he
        obtain ⟨rfl, rfl, rfl⟩ := he
        exact (good_loadN hR hg hs h2 hv hc).done

theorem snd_store {t : TypeId} {p x : Operand} {s : Nat} {p' y : Opd} {c : Prop} {av : AV} {L' : List Blk} (hR : Rel w0 S0 E L w) (hT : TR E T a) (hs : szOf P t = some s) (hp : lowX p = some p') (hx : lowX x = some y)
    (he : evalOp T L (.store s p' y) = some (c, av, L')) (hc : c) : Done P w0 S0 E L' av w (do Instr.storeAt t (a.eval p) (a.eval x); pure .skip) := by
  simp only [evalOp] at he
  split at he <;> try cases he
  rename_i i off vals h1 h2
  split at he <;> try cases he
  rename_i l hL
  split at he <;> try cases he
  rename_i hq
  rcases h3 : evX T y with _ | u
  · simp [h3] at h2
  · simp only [h3, Option.bind_some] at h2
    obtain ⟨w', r1, r2⟩ := good_store (P := P) hR hs rfl (evX_sound hp h1 hT) hL (cells?_sound h2 (evX_sound hx h3 hT)) hq.2 hq.1 hc
    exact ⟨E, undef, w', .inr ⟨by simp [r1], rfl⟩, .refl E, by simp [VR], r2⟩

theorem snd_slV {t e : TypeId} {x : Operand} {lo hi mx : Option Operand} {sz : Nat} {x' : Opd} {lo' hi' mx' : Option Opd} {c : Prop} {av : AV} {L' : List Blk} (hR : Rel w0 S0 E L w) (hT : TR E T a) (hd : P.underlying t = some (.slice e)) (hs : szOf P e = some sz)
    (hx : lowX x = some x') (hlo : lowXo lo = some lo') (hhi : lowXo hi = some hi') (hmx : lowXo mx = some mx')
    (he : evalOp T L (.slV sz x' lo' hi' mx') = some (c, av, L')) (hc : c) : Done P w0 S0 E L' av w (do pure (.value (← Instr.sliceAt t (a.eval x) (lo.map a.eval) (hi.map a.eval) (mx.map a.eval)))) := by
  simp only [evalOp] at he
  have mxnone : ∀ {r}, bnd T mx' = some r → r = none → mx = none := fun {r} hb hr => by
    rcases bnd_ok hT hmx hb with ⟨h, _⟩ | ⟨_, _, _, _, h, _⟩
    · exact h
    · rw [hr] at h; cases h
  split at he
  · rename_i h1 h2 h3 h4
    simp only [Option.some.injEq, Prod.mk.injEq] at he; obtain ⟨rfl, rfl, rfl⟩ := he
    have := mxnone h4 rfl; subst this
    exact (good_slV_nil hR hd hs (evX_sound hx h1 hT) (bnd_ok hT hlo h2) (bnd_ok hT hhi h3) hc.1 hc.2).done
  · rename_i h1 h2 h3 h4
    simp only [Option.some.injEq, Prod.mk.injEq] at he; obtain ⟨rfl, rfl, rfl⟩ := he
    have := mxnone h4 rfl; subst this
    exact ((good_slV hR hd hs (evX_sound hx h1 hT) (bnd_ok hT hlo h2) (bnd_ok hT hhi h3) hc.1 hc.2.1).1 _ _ rfl hc.2.2).done
  · rename_i h1 h2 h3 h4
    simp only [Option.some.injEq, Prod.mk.injEq] at he; obtain ⟨rfl, rfl, rfl⟩ := he
    rcases bnd_ok hT hhi h3 with ⟨_, h⟩ | ⟨o1, k1, n1, rfl, q1, e1⟩
    · cases h
    rcases bnd_ok hT hmx h4 with ⟨_, h⟩ | ⟨o2, k2, n2, rfl, q2, e2⟩
    · cases h
    cases q1; cases q2
    exact (good_slV3 hR hd hs (evX_sound hx h1 hT).gsl_sl.1 (bnd_ok hT hlo h2) e1 e2 hc.1 hc.2.1 hc.2.2.1 hc.2.2.2.1 hc.2.2.2.2).done
  · rename_i h1 h2 h3 h4
    simp only [Option.some.injEq, Prod.mk.injEq] at he; obtain ⟨rfl, rfl, rfl⟩ := he
    rcases bnd_ok hT hhi h3 with ⟨_, h⟩ | ⟨o1, k1, n1, rfl, q1, e1⟩
    · cases h
    rcases bnd_ok hT hmx h4 with ⟨_, h⟩ | ⟨o2, k2, n2, rfl, q2, e2⟩
    · cases h
    cases q1; cases q2
    exact (good_slV3 hR hd hs (evX_sound hx h1 hT) (bnd_ok hT hlo h2) e1 e2 hc.1 hc.2.1 hc.2.2.1 hc.2.2.2.1 hc.2.2.2.2).done
  · rename_i h1 h2 h3 h4
    simp only [Option.some.injEq, Prod.mk.injEq] at he; obtain ⟨rfl, rfl, rfl⟩ := he
    have := mxnone h4 rfl; subst this
    obtain ⟨rfl, hc⟩ := hc
    exact ((good_slV hR hd hs (evX_sound hx h1 hT).gsl_sl.1 (bnd_ok hT hlo h2) (bnd_ok hT hhi h3) hc.1 hc.2.1).1 _ _ rfl hc.2.2).done
  · rename_i h1 h2 h3 h4
    split at he <;> try cases he
    rename_i hsz; subst hsz
    have := mxnone h4 rfl; subst this
    exact ((good_slV hR hd hs (evX_sound hx h1 hT) (bnd_ok hT hlo h2) (bnd_ok hT hhi h3) hc.1 hc.2.1).2 _ _ _ rfl hc.2.2).done
  · cases he

theorem snd_slA {t e : TypeId} {x : Operand} {lo hi : Option Operand} {n sz : Nat} {x' : Opd} {lo' hi' : Option Opd} {c : Prop} {av : AV} {L' : List Blk} (hR : Rel w0 S0 E L w) (hT : TR E T a) (hd : P.underlying t = some (.array n e)) (hs : szOf P e = some sz)
    (hx : lowX x = some x') (hlo : lowXo lo = some lo') (hhi : lowXo hi = some hi')
    (he : evalOp T L (.slA n sz x' lo' hi') = some (c, av, L')) (hc : c) : Done P w0 S0 E L' av w (do pure (.value (← Instr.sliceAt t (a.eval x) (lo.map a.eval) (hi.map a.eval) none))) := by
  simp only [evalOp] at he
  split at he
  · rename_i h1 h2 h3
    simp only [Option.some.injEq, Prod.mk.injEq] at he; obtain ⟨rfl, rfl, rfl⟩ := he
    exact ((good_slA hR hd hs (evD_sound hR hx h1 hT) (bnd_ok hT hlo h2) (bnd_ok hT hhi h3) hc.1 hc.2.1 hc.2.2.1).1 _ _ rfl).done
  · rename_i h1 h2 h3
    split at he <;> try cases he
    rename_i l hL
    exact ((good_slA hR hd hs (evD_sound hR hx h1 hT) (bnd_ok hT hlo h2) (bnd_ok hT hhi h3) hc.1 hc.2.1 hc.2.2.1).2 _ _ _ rfl hL hc.2.2.2).done
  · cases he

theorem snd_iaddr {t e : TypeId} {x i : Operand} {sz : Nat} {x' i' : Opd} {c : Prop} {av : AV} {L' : List Blk} (hR : Rel w0 S0 E L w) (hT : TR E T a) (hd : P.underlying t = some (.slice e)) (hs : szOf P e = some sz)
    (hx : lowX x = some x') (hi : lowX i = some i') (he : evalOp T L (.iaddr sz x' i') = some (c, av, L')) (hc : c) : Done P w0 S0 E L' av w (do pure (.value (← Instr.indexAt t (a.eval x) (a.eval i)))) := by
  simp only [evalOp] at he
  split at he <;> try cases he
  all_goals
    rename_i h1 h2
    have hi' := evX_sound hi h2 hT
    simp only [VR] at hi'
    rw [hi']
  · exact ((good_iaddr hR hd hs (evX_sound hx h1 hT) hc.1).1 _ _ _ rfl hc.2).done
  · exact ((good_iaddr hR hd hs (evX_sound hx h1 hT).gsl_sl.1 hc.1).1 _ _ _ rfl hc.2).done
  · exact ((good_iaddr hR hd hs (evX_sound hx h1 hT) hc.1).2 _ _ _ _ _ rfl hc.2).done

theorem snd_iaddrA {t e : TypeId} {x i : Operand} {n sz : Nat} {x' i' : Opd} {c : Prop} {av : AV} {L' : List Blk} (hR : Rel w0 S0 E L w) (hT : TR E T a) (hd : P.underlying t = some (.array n e)) (hs : szOf P e = some sz)
    (hx : lowX x = some x') (hi : lowX i = some i') (he : evalOp T L (.iaddrA n sz x' i') = some (c, av, L')) (hc : c) : Done P w0 S0 E L' av w (do pure (.value (← Instr.indexAt t (a.eval x) (a.eval i)))) := by
  simp only [evalOp] at he
  split at he <;> try cases he
  all_goals
    rename_i h1 h2
    have hi' := evX_sound hi h2 hT
    simp only [VR] at hi'
    rw [hi']
  · exact ((good_iaddrA hR hd hs (evD_sound hR hx h1 hT) hc.1 hc.2).1 _ _ rfl).done
  · exact ((good_iaddrA hR hd hs (evD_sound hR hx h1 hT) hc.1 hc.2).2 _ _ rfl).done

theorem snd_faddr {t : TypeId} {fs : Array Field} {f : Nat} {fd : Field} {x : Operand} {x' : Opd} {c : Prop} {av : AV} {L' : List Blk} (hR : Rel w0 S0 E L w) (hT : TR E T a) (hd : P.underlying t = some (.struct fs)) (hf : fs.toList[f]? = some fd) (hz : (szOf P fd.type).getD 0 ≠ 0)
    (hx : lowX x = some x') (he : evalOp T L (.faddr fd.offset x') = some (c, av, L')) : Done P w0 S0 E L' av w (do pure (.value (← Instr.fieldAt t (a.eval x) f))) := by
  simp only [evalOp] at he
  split at he <;> try cases he
  all_goals rename_i h1
  · exact ((good_faddr hR hd hf hz (evD_sound hR hx h1 hT)).1 _ _ rfl).done
  · exact ((good_faddr hR hd hf hz (evD_sound hR hx h1 hT)).2 _ _ rfl).done

theorem snd_field {t : TypeId} {fs : Array Field} {f sz : Nat} {g : Bool} {fd : Field} {x : Operand} {x' : Opd} {c : Prop} {av : AV} {L' : List Blk} (hR : Rel w0 S0 E L w) (hT : TR E T a) (hd : P.underlying t = some (.struct fs)) (hf : fs.toList[f]? = some fd) (hg : isAggT P fd.type = some g) (hs : szOf P fd.type = some sz)
    (hx : lowX x = some x') (he : evalOp T L (.field g fd.offset sz x') = some (c, av, L')) (hc : c) : Done P w0 S0 E L' av w (do pure (.value (← Instr.field t (a.eval x) f))) := by
  simp only [evalOp] at he
  split at he <;> try cases he
  rename_i l h1
  cases g
  · simp only [Bool.false_eq_true, if_false, Option.some.injEq, Prod.mk.injEq] at he
    obtain ⟨rfl, rfl, rfl⟩ := he
    exact ((good_field hR hd hf hg hs (evX_sound hx h1 hT)).2 rfl hc).done
  · simp only [if_true, Option.some.injEq, Prod.mk.injEq] at he
    obtain ⟨rfl, rfl, rfl⟩ := he
    exact ((good_field hR hd hf hg hs (evX_sound hx h1 hT)).1 rfl hc).done

theorem snd_bin {op : BinOp} {t u : TypeId} {x y : Operand} {lo : LOp} {c : Prop} {av : AV} {L' : List Blk} (hR : Rel w0 S0 E L w) (hT : TR E T a) (hl : lowBin P op t x y = some lo) (he : evalOp T L lo = some (c, av, L')) (hc : c) :
    Done P w0 S0 E L' av w (do pure (.value (← (do eqGuard op t x y (a.eval x) (a.eval y); binOp op t (a.eval x) (a.eval y))))) := by
  unfold lowBin at hl
  split at hl <;> try cases hl
  rename_i x' y' hx hy
  have plain : ∀ {lo : LOp}, lo = .bin op x' y' → evalOp T L lo = some (c, av, L') → Done P w0 S0 E L' av w (do pure (.value (← (do eqGuard op t x y (a.eval x) (a.eval y); binOp op t (a.eval x) (a.eval y))))) := fun hlo he => by
    subst hlo
    simp only [evalOp] at he
    split at he <;> try cases he
    rename_i u v h1 h2
    rcases h3 : bin op u v with _ | ⟨c', r⟩
    · simp [h3] at he
    · simp only [h3, Option.map_some, Option.some.injEq, Prod.mk.injEq] at he
      obtain ⟨rfl, rfl, rfl⟩ := he
      have hu := evX_sound hx h1 hT
      have hv := evX_sound hy h2 hT
      have hguard : (eqGuard op t x y (a.eval x) (a.eval y)).run P w = .ok () w := by
        have : (∃ k n, a.eval x = .int k n) ∨ (∃ s, a.eval x = .string s) := by
          unfold bin at h3
          split at h3 <;> try cases h3
          all_goals (simp only [VR] at hu)
          · exact .inl ⟨_, _, hu⟩
          · exact .inl ⟨_, _, hu⟩
          · exact .inl ⟨_, _, hu⟩
          · exact .inr ⟨_, hu⟩
        unfold eqGuard
        rcases this with ⟨k, n, e⟩ | ⟨s, e⟩ <;> rw [e] <;> cases op <;> simp
      obtain ⟨E', x1, w', r1, r2⟩ := good_bin (P := P) (t := t) hR hu hv h3 hc
      exact ⟨E', x1, w', .inl (by simp [hguard, r1]), r2⟩
  have eqs : ∀ (neg : Bool) (k : EqK) (d : TypeDesc), op = (if neg then .neq else .eql) → P.underlying t = some d → k.fits d = true → (k = .iface → (isConstX x || isConstX y) = true) → evalOp T L (.eqk neg k x' y') = some (c, av, L') →
      Done P w0 S0 E L' av w (do pure (.value (← (do eqGuard op t x y (a.eval x) (a.eval y); binOp op t (a.eval x) (a.eval y))))) := fun neg k d hop hd hk hif he => by
    simp only [evalOp] at he
    split at he <;> try cases he
    rename_i u v h1 h2
    rcases h3 : eqA k u v with _ | r
    · simp [h3] at he
    · simp only [h3, Option.map_some, Option.some.injEq, Prod.mk.injEq] at he
      obtain ⟨rfl, rfl, rfl⟩ := he
      exact (good_eq neg hop hR (evX_sound hx h1 hT) (evX_sound hy h2 hT) hd hk h3 x y hif).done
  have sln : ∀ (neg : Bool) (e : TypeId), op = (if neg then .neq else .eql) → P.underlying t = some (.slice e) → (if isNilX y = true then some (LOp.slnil neg x') else none) = some lo → evalOp T L lo = some (c, av, L') →
      Done P w0 S0 E L' av w (do pure (.value (← (do eqGuard op t x y (a.eval x) (a.eval y); binOp op t (a.eval x) (a.eval y))))) := fun neg e hop hd hlo he => by
    by_cases hnil : isNilX y = true
    case neg => rw [if_neg hnil] at hlo; cases hlo
    rw [if_pos hnil] at hlo
    cases hlo
    have hy' : a.eval y = .slice none 0 0 := by
      unfold isNilX at hnil
      split at hnil
      · rfl
      · cases hnil
    rw [hy']
    simp only [evalOp] at he
    split at he <;> try cases he
    all_goals
      rename_i h1
      have hu := evX_sound hx h1 hT
      simp only [VR] at hu
      refine (good_slnil neg hop hR hd ?_ x y).done
    · obtain ⟨p, c, h2, h3, _, h4⟩ := hu
      exact ⟨p, c, h2, fun e => h4.elim (fun h => h.1) (fun ⟨_, _, h, _⟩ => by rw [e] at h; cases h)⟩
    · obtain ⟨p, c, h2, h3, _, h4, _⟩ := hu
      exact ⟨p, c, h2, fun e => h4.elim (fun h => h.1) (fun ⟨_, _, h, _⟩ => by rw [e] at h; cases h)⟩
    · obtain ⟨_, _, _, _, h2, _⟩ := hu
      exact ⟨_, _, h2, fun e => by cases e⟩
  split at hl
  · cases hl; exact plain rfl he
  · cases hl; exact plain rfl he
  · rename_i d _ _ hd
    split at hl <;> try (cases hl; done)
    all_goals try cases hl
    · exact eqs false .bool _ rfl hd rfl (by simp) he
    · exact eqs true .bool _ rfl hd rfl (by simp) he
    · exact eqs false .ptr _ rfl hd rfl (by simp) he
    · exact eqs true .ptr _ rfl hd rfl (by simp) he
    · exact sln false _ rfl hd hl he
    · exact sln true _ rfl hd hl he
    · exact eqs false .map _ rfl hd rfl (by simp) he
    · exact eqs true .map _ rfl hd rfl (by simp) he
    · exact eqs false .func _ rfl hd rfl (by simp) he
    · exact eqs true .func _ rfl hd rfl (by simp) he
    · split at hl <;> try cases hl
      rename_i hcst
      exact eqs false .iface _ rfl hd rfl (fun _ => hcst) he
    · split at hl <;> try cases hl
      rename_i hcst
      exact eqs true .iface _ rfl hd rfl (fun _ => hcst) he
  · cases hl

end
end Go.Proofs.YtpednpndahgleaaGreatDoor.Av
