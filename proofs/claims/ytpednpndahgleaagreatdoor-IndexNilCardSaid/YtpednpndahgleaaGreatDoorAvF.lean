/- Each lowered operation does what it is said to do, part 3. No program in sight. -/
import Derived.Test.YtpednpndahgleaaGreatDoorAvE
set_option linter.unusedSimpArgs false
set_option linter.unusedVariables false
namespace Go.Proofs.YtpednpndahgleaaGreatDoor.Av
open Go

section
variable {P : Program} {w0 : World} {S0 : Nat → Prop} {E : Env} {L : List Blk} {w : World} {T : Tm} {a : Act}

theorem good_bin {op : BinOp} {t : TypeId} {x y : AV} {u v : Value} {r : AV} {c : Prop} (hR : Rel w0 S0 E L w) (hx : VR E x u) (hy : VR E y v) (h : bin op x y = some (c, r)) (hc : c) :
    Good P w0 S0 E L r w (binOp op t u v) := by
  unfold bin at h
  split at h
  · simp only [Option.some.injEq, Prod.mk.injEq] at h; obtain ⟨rfl, rfl⟩ := h
    simp only [VR] at hx hy; subst hx hy
    exact .same hR (v := .int _ _) (by simp [binOp, Op.shift, show ¬ (_ < (0 : Int)) from Int.not_lt.2 hc]) rfl
  · simp only [Option.some.injEq, Prod.mk.injEq] at h; obtain ⟨rfl, rfl⟩ := h
    simp only [VR] at hx hy; subst hx hy
    exact .same hR (v := .int _ _) (by simp [binOp, Op.shift, show ¬ (_ < (0 : Int)) from Int.not_lt.2 hc]) rfl
  · split at h
    · rename_i e; subst e
      simp only [VR] at hx hy; subst hx hy
      exact good_binI hR h hc
    · cases h
  · simp only [VR] at hx hy; subst hx hy
    exact good_binS hR h hc
  · cases h

theorem equal_succ (t : TypeId) (x y : Value) : Op.equal t x y = Op.equalIn (9999 + 1) t x y := rfl

def EqK.fits : EqK → TypeDesc → Bool
  | .bool, .bool | .ptr, .pointer _ | .slice, .slice _ | .map, .map _ _ | .func, .func _ _ _ | .iface, .interface _ => true
  | _, _ => false

theorem VR.ptr_shape {i off : Nat} {v : Value} (h : VR E (.ptr i off) v) : ∃ p, v = .pointer (some p) := by
  simp only [VR] at h; obtain ⟨_, _, h⟩ := h; exact ⟨_, h⟩
theorem VR.iptr_shape {l : List AV} {off : Nat} {v : Value} (h : VR E (.iptr l off) v) : ∃ p, v = .pointer (some p) := by
  simp only [VR] at h; obtain ⟨_, _, h, _⟩ := h; exact ⟨_, h⟩
theorem VR.lsl_shape {i off n s : Nat} {c : Option Nat} {v : Value} (h : VR E (.lsl i off n c s) v) : ∃ p c, v = .slice (some p) n c := by
  simp only [VR] at h; obtain ⟨_, _, _, _, h, _⟩ := h; exact ⟨_, _, h⟩
theorem VR.lmap_shape {i : Nat} {v : Value} (h : VR E (.lmap i) v) : ∃ p, v = .map (some p) := by
  simp only [VR] at h; obtain ⟨_, _, h⟩ := h; exact ⟨_, h⟩
theorem VR.func_shape {f : FuncId} {l : List AV} {v : Value} (h : VR E (.func f l) v) : ∃ p, v = .func (.func f) #[] p := by
  simp only [VR] at h; obtain ⟨_, h, _⟩ := h; exact ⟨_, h⟩
theorem VR.iface_shape {t : TypeId} {x : AV} {v : Value} (h : VR E (.iface t x) v) : ∃ p, v = .iface t p := by
  simp only [VR] at h; obtain ⟨_, h, _⟩ := h; exact ⟨_, h⟩

set_option maxHeartbeats 2000000 in
theorem eqA_run {k : EqK} {t : TypeId} {d : TypeDesc} {x y : AV} {u v : Value} {r : Bool} (hx : VR E x u) (hy : VR E y v) (hd : P.underlying t = some d) (hk : k.fits d = true) (h : eqA k x y = some r) :
    (Op.equal t u v).run P w = .ok r w ∧ (∀ k m, u ≠ .int k m) ∧ (∀ s, u ≠ .string s) ∧ (∀ l, u ≠ .agg l) ∧ (u = .nilIface → v = .nilIface → k = .iface) ∧ (∀ k f, u ≠ .float k f) ∧ (∀ k f g, u ≠ .complex k f g) := by
  rw [equal_succ]
  generalize 9999 = depth
  unfold eqA at h
  split at h <;> simp at h <;> subst h <;> cases d <;> simp [EqK.fits] at hk
  all_goals
    (first
      | (obtain ⟨_, rfl⟩ := hx.ptr_shape) | (obtain ⟨_, rfl⟩ := hx.iptr_shape) | (obtain ⟨_, _, rfl⟩ := hx.lsl_shape)
      | (obtain ⟨_, rfl⟩ := hx.lmap_shape) | (obtain ⟨_, rfl⟩ := hx.func_shape) | (obtain ⟨_, rfl⟩ := hx.iface_shape) | (simp only [VR] at hx; subst hx))
    (first
      | (obtain ⟨_, rfl⟩ := hy.ptr_shape) | (obtain ⟨_, rfl⟩ := hy.iptr_shape) | (obtain ⟨_, _, rfl⟩ := hy.lsl_shape)
      | (obtain ⟨_, rfl⟩ := hy.lmap_shape) | (obtain ⟨_, rfl⟩ := hy.func_shape) | (obtain ⟨_, rfl⟩ := hy.iface_shape) | (simp only [VR] at hy; subst hy))
    (refine ⟨?_, by simp, by simp, by simp, by simp, by simp, by simp⟩)
    (simp only [Op.equalIn, Sem.run_bind, run_underlying hd, Result.andThen_ok, Sem.run_pure, Option.isNone, beq_self_eq_true])
  all_goals
    rename_i a b
    cases a <;> cases b <;> rfl

theorem good_eq {op : BinOp} {k : EqK} {t : TypeId} {d : TypeDesc} {x y : AV} {u v : Value} {r : Bool} (neg : Bool) (hop : op = if neg then .neq else .eql) (hR : Rel w0 S0 E L w) (hx : VR E x u) (hy : VR E y v) (hd : P.underlying t = some d) (hk : k.fits d = true) (h : eqA k x y = some r) (X Y : Operand)
    (hif : k = .iface → (isConstX X || isConstX Y) = true) :
    Good P w0 S0 E L (.bool (if neg then !r else r)) w (do eqGuard op t X Y u v; binOp op t u v) := by
  obtain ⟨h1, n1, n2, n3, n4, n5, n6⟩ := eqA_run (P := P) (w := w) hx hy hd hk h
  have hg : (eqGuard op t X Y u v).run P w = .ok () w := by
    subst hop
    unfold eqGuard
    cases neg <;> simp
    all_goals
      split
      · have := hif (n4 rfl rfl)
        cases X <;> cases Y <;> simp [isConstX] at this <;> simp
      · exact absurd rfl (n3 _)
      · rfl
  refine .same hR (v := .bool (if neg then !r else r)) ?_ (by simp [VR])
  rw [Sem.run_bind, hg, Result.andThen_ok]
  subst hop
  cases neg <;> simp only [if_true, if_false, Bool.false_eq_true]
  all_goals
    cases u <;> first
      | exact absurd rfl (n1 _ _)
      | exact absurd rfl (n2 _)
      | exact absurd rfl (n5 _ _)
      | exact absurd rfl (n6 _ _ _)
      | simp [binOp, h1]

/-- A slice held against nil. -/
theorem good_slnil {op : BinOp} {t e : TypeId} {u : Value} {n : Nat} (neg : Bool) (hop : op = if neg then .neq else .eql) (hR : Rel w0 S0 E L w) (hd : P.underlying t = some (.slice e)) (hu : ∃ p c, u = .slice p n c ∧ (p = none → n = 0)) (X Y : Operand) :
    Good P w0 S0 E L (if n = 0 then .anyb else .bool neg) w (do eqGuard op t X Y u (.slice none 0 0); binOp op t u (.slice none 0 0)) := by
  obtain ⟨p, c, rfl, hp⟩ := hu
  have h1 : (Op.equal t (.slice p n c) (.slice none 0 0)).run P w = .ok p.isNone w := by
    rw [equal_succ]
    generalize 9999 = depth
    simp only [Op.equalIn, Sem.run_bind, run_underlying hd, Result.andThen_ok, Sem.run_pure, Option.isNone]
    cases p <;> rfl
  have hg : (eqGuard op t X Y (.slice p n c) (.slice none 0 0)).run P w = .ok () w := by
    subst hop
    unfold eqGuard
    cases neg <;> simp
  refine .same hR (v := .bool (if neg then !p.isNone else p.isNone)) ?_ ?_
  · rw [Sem.run_bind, hg, Result.andThen_ok]
    subst hop
    cases neg <;> simp [binOp, h1]
  · split
    · exact ⟨_, rfl⟩
    · rename_i hn
      cases p with
      | none => exact absurd (hp rfl) hn
      | some p => cases neg <;> rfl

/-! conversions, building of values -/
theorem good_conv {s d : TypeId} {k : IntKind} {n : Int} {v : Value} {q : IntKind} (hR : Rel w0 S0 E L w) (hs : ∃ j, P.underlying s = some (.int j)) (hd : P.underlying d = some (.int k)) (hv : VR E (.int q n) v) :
    Good P w0 S0 E L (.int k (k.wrap n)) w (convert s d v) := by
  obtain ⟨j, hs⟩ := hs
  simp only [VR] at hv; subst hv
  exact .same hR (v := .int _ _) (by simp [convert, run_underlying hs, run_underlying hd, Conv.intToInt]) rfl

theorem good_sconv {s d : TypeId} {v : Value} {x : AV} (hR : Rel w0 S0 E L w) (hs : P.underlying s = some .string) (hd : P.underlying d = some .string) (hv : VR E x v) (hx : ∃ l, x = .str l) :
    Good P w0 S0 E L x w (convert s d v) := by
  obtain ⟨l, rfl⟩ := hx
  simp only [VR] at hv; subst hv
  exact .same hR (v := .string _) (by simp [convert, run_underlying hs, run_underlying hd]) rfl

theorem VR.gsl_sl {l : List AV} {n i s : Nat} {v : Value} (h : VR E (.gsl l n i s) v) : VR E (.sl l n none) v ∧ l.length = n * s := by
  simp only [VR] at h ⊢
  obtain ⟨p, c, h1, h2, h3, h4, _⟩ := h
  exact ⟨⟨p, c, h1, h2, by simp, h4⟩, h3⟩

/-- The first k elements of a slice that stays. -/
theorem sl_cells {sz n k : Nat} {l : List AV} {cap : Option Nat} {v : Value} (hR : Rel w0 S0 E L w) (hv : VR E (.sl l n cap) v) (hl : l.length = n * sz) (hk : k ≤ n) :
    (Builtin.lenOf v).run P w = .ok n w ∧ ∃ cs, VRL E (l.take (k * sz)) cs ∧ cs.length = k * sz ∧ (Builtin.firstCells sz k v).run P w = .ok ⟨cs⟩ w := by
  have hks : k * sz ≤ n * sz := Nat.mul_le_mul_right _ hk
  have hlen : (l.take (k * sz)).length = k * sz := by simp; omega
  simp only [VR] at hv
  obtain ⟨p, c, rfl, h1, h2, h3⟩ := hv
  refine ⟨by simp [Builtin.lenOf], ?_⟩
  rcases h3 with ⟨rfl, rfl, rfl⟩ | ⟨b, o, rfl, h3⟩
  · have : k = 0 := by omega
    subst this
    exact ⟨[], by simp [VRL], by simp, by cases p <;> simp [Builtin.firstCells, loadCells, loadCellsFrom]⟩
  · obtain ⟨cs, h4, h5⟩ := loadCells_ok (P := P) (w := w) (b := b) (o := o) (l := l.take (k * sz)) fun j a ha => by
      obtain ⟨x, h6, h7⟩ := (h3.take (k * sz)).get ha
      exact ⟨x, hR.mem _ _ _ h6, h7⟩
    exact ⟨cs, h4, by rw [h4.length, hlen], by rw [hlen] at h5; simpa [Builtin.firstCells] using h5⟩

theorem elems_cells {sz : Nat} {x : AV} {v : Value} {c : Prop} {l : List AV} {n : Nat} (hR : Rel w0 S0 E L w) (hv : VR E x v) (h : elems L sz x = some (c, l, n)) (hc : c) :
    (Builtin.lenOf v).run P w = .ok n w ∧ l.length = n * sz ∧ ∃ cs, VRL E l cs ∧ (Builtin.firstCells sz n v).run P w = .ok ⟨cs⟩ w := by
  unfold elems at h
  split at h
  · simp only [Option.some.injEq, Prod.mk.injEq] at h; obtain ⟨rfl, rfl, rfl⟩ := h
    simp only [VR] at hv; subst hv
    exact ⟨by simp [Builtin.lenOf], by simp, [], by simp [VRL], by simp [Builtin.firstCells]⟩
  · rename_i l m cap
    simp only [Option.some.injEq, Prod.mk.injEq] at h; obtain ⟨rfl, rfl, rfl⟩ := h
    obtain ⟨h1, cs, h2, _, h3⟩ := sl_cells (P := P) hR hv hc (Nat.le_refl _)
    rw [← hc, List.take_length] at h2
    exact ⟨h1, hc, cs, h2, h3⟩
  · rename_i l m i s
    simp only [Option.some.injEq, Prod.mk.injEq] at h; obtain ⟨rfl, rfl, rfl⟩ := h
    subst hc
    obtain ⟨hv, hc⟩ := hv.gsl_sl
    obtain ⟨h1, cs, h2, _, h3⟩ := sl_cells (P := P) hR hv hc (Nat.le_refl _)
    rw [← hc, List.take_length] at h2
    exact ⟨h1, hc, cs, h2, h3⟩
  · rename_i i off m cap s
    split at h
    · rename_i l' hL
      simp only [Option.some.injEq, Prod.mk.injEq] at h; obtain ⟨rfl, rfl, rfl⟩ := h
      simp only [VR] at hv
      obtain ⟨k, rc, d, h1, rfl, h2, h3, h4, h5⟩ := hv
      obtain ⟨k', cs0, ty, fr, g1, g2, g3, g4, g5, g6⟩ := hR.blk i _ hL
      rw [h1] at g1; cases g1
      have hlen : ((l'.drop off).take (m * sz)).length = m * sz := by simp; omega
      refine ⟨by simp [Builtin.lenOf], hlen, ?_⟩
      rcases Nat.eq_zero_or_pos m with hm | hm
      · subst hm
        exact ⟨[], by simp [VRL], by simp [Builtin.firstCells, loadCells, loadCellsFrom]⟩
      · have hd := h2 (by omega)
        subst hd
        obtain ⟨cs, h6, h7⟩ := loadCells_ok (P := P) (w := w) (b := k.blk) (o := k.off + off) (l := (l'.drop off).take (m * sz)) fun j a ha => by
          have hj : j < m * sz := by have := (List.getElem?_eq_some_iff.1 ha).1; omega
          rw [List.getElem?_take_of_lt hj, List.getElem?_drop] at ha
          obtain ⟨x, h8, h9⟩ := g5 _ _ ha
          refine ⟨x, ?_, h9⟩
          rw [← Nat.add_assoc] at h8
          simp [World.cell?, g2, h8]
        exact ⟨cs, h6, by rw [hlen] at h7; simpa [Builtin.firstCells] using h7⟩
    · cases h
  · split at h
    · rename_i s hsz
      simp only [Option.some.injEq, Prod.mk.injEq] at h; obtain ⟨rfl, rfl, rfl⟩ := h
      simp only [VR] at hv; subst hv
      subst hsz
      refine ⟨by simp [Builtin.lenOf]; rfl, by simp [u8s], s.map fun b => .int .u8 b.toNat, ?_, ?_⟩
      · refine VRL.of_get (by simp [u8s]) fun i a ha => ?_
        simp only [u8s, List.getElem?_map, Option.map_eq_some_iff] at ha ⊢
        obtain ⟨b, h1, rfl⟩ := ha
        exact ⟨_, ⟨b, h1, rfl⟩, rfl⟩
      · have : (ByteArray.mk ⟨s⟩).extract 0 s.length = ⟨⟨s⟩⟩ := by
          apply ByteArray.ext
          simp
        simp [Builtin.firstCells, this]
    · cases h
  · cases h

end
end Go.Proofs.YtpednpndahgleaaGreatDoor.Av
