/- What a contract of the library's (a function that computes, and makes memory of its own) says over abstract values. -/
import Derived.Test.YtpednpndahgleaaGreatDoorAvV
import Derived.Sort.Grow
import Derived.Deep.Draws
import Derived.Lib.LaidTab
set_option linter.unusedSimpArgs false
set_option linter.unusedVariables false
namespace Go.Proofs.YtpednpndahgleaaGreatDoor.Av
open Go

/-- What was there is there; the rest is new. -/
structure Grew (w w' : World) : Prop where
  heap : ∀ b, b < w.heap.size → w'.heap[b]? = w.heap[b]?
  size : w.heap.size ≤ w'.heap.size
  os : w'.os = w.os
  tape : w'.tape = w.tape
  output : w'.output = w.output

theorem Grew.refl (w : World) : Grew w w := ⟨fun _ _ => rfl, Nat.le_refl _, rfl, rfl, rfl⟩
theorem Grew.of_grow (w : World) (k : Nat) (os : Array Obj) : Grew w (Sort.grow (w.drewN k) os) := by
  refine ⟨fun b hb => ?_, ?_, rfl, rfl, rfl⟩
  · show (w.heap ++ os)[b]? = _
    exact Array.getElem?_append_left hb
  · show _ ≤ (w.heap ++ os).size
    simp

theorem Rel.grown {w0 : World} {S0 : Nat → Prop} {E : Env} {L : List Blk} {w w' : World} (h : Rel w0 S0 E L w) (g : Grew w w') : Rel w0 S0 E L w' := by
  refine ⟨fun b o v hv => ?_, fun i k hk => ?_, h.fresh, h.own, h.inj, h.tkfresh, h.tkown, h.tkloc, h.tkinj, fun k hk hs => ?_, Nat.le_trans h.size g.size, g.os.trans h.os, g.tape.trans h.tape, g.output.trans h.output, h.glob,
    h.gsz.mod fun b cs ty fr hb => ⟨cs, ty, fr, by rw [g.heap b (Array.getElem?_eq_some_iff.1 hb).1]; exact hb, rfl⟩⟩
  · have := h.mem b o v hv
    simp only [World.cell?] at this ⊢
    rw [g.heap b (h.mem_lt hv)]; exact this
  · cases hl : k.live
    · refine BRel.still hl rfl (fun t c n sz e ht hc => ?_) (h.blk i k hk)
      subst e
      exact g.heap _ (h.tok_lt hk ht hc)
    · exact BRel.worldL hl (fun c hc => g.heap _ (h.loc_lt hk hl hc)) (h.blk i k hk)
  · rw [g.heap k (Nat.lt_of_lt_of_le hk h.size)]; exact h.frame k hk hs

/-- A contract, lifted. -/
theorem ACall_lift {P : Program} {f : FuncId} {fn : Func} (hf : P.funcs[f]? = some fn) (hb : fn.body.isSome = true) (hn : (fn.name == "runtime.NumGoroutine") = false) {args : List AV} {L : List Blk} {K : AV → List Blk → Prop} {r : AV}
    (hc : ∀ (w0 : World) (S0 : Nat → Prop) (E : Env) (w : World) (vs : List Value), Rel w0 S0 E L w → VRL E args vs → Calls P f ⟨vs⟩ w fun e w' => ∃ v, e = .returned v ∧ VR E r v ∧ Grew w w') (hk : K r L) : ACall P f args L K := fun w0 S0 E w vs hR hv => by
  refine .inl ⟨?_, (hc w0 S0 E w vs hR hv).mono fun e w' ⟨v, h1, h2, h3⟩ => ⟨E, v, r, L, h1, .refl E, hk, h2, hR.grown h3⟩⟩
  simp only [callFunc, Sem.run_bind, run_program, Result.andThen_ok, hf, hn]
  cases h : fn.body with
  | none => simp [h] at hb
  | some c => simp

/-- A listed table of integers, as the library's contracts ask for it. -/
theorem Rel.table {P : Program} {w0 : World} {S0 : Nat → Prop} {E : Env} {L : List Blk} {w : World} (h : Rel w0 S0 E L w) {name : String} {g : Nat} {k : IntKind} {zs : List Int} (hg : P.globalNamed name = some g) (hp : globOf g = some (zs.map (AV.int k))) (hne : zs ≠ []) :
    Lib.TabIs P w name k zs := by
  have hm := globOf_mem hp
  obtain ⟨cs, ty, fr, h1, h2⟩ := h.gsz _ hm (by simpa using hne)
  simp only [List.length_map] at h2
  simp only [Lib.TabIs, World.var?, hg, Option.bind_some, h1, Option.some.injEq]
  apply Array.ext
  · simp [h2]
  · intro i hi hi'
    have hr := h.glob.env hm
    have hi2 : i < zs.length := by omega
    obtain ⟨v, h3, h4⟩ := hr.get (i := i) (a := .int k zs[i]) (by simp [hi2])
    simp only [VR] at h4
    subst h4
    have := h.mem _ _ _ h3
    simp only [World.cell?, h1] at this
    simp at this
    have e := Array.getElem?_eq_getElem hi
    rw [e] at this
    simpa using Option.some.inj this
theorem AW_growK {P : Program} {N : Nat} {own : Nat → Nat → Nat} {Q : Exit → Tm → List Blk → Prop} {T : Tm} {L X : List Blk} {lc : LCode} (t sz k : Nat) (hk : X.length = k) {l : List AV} {n : Nat} (h1 : look T t = some (.sl l n (some n))) (h2 : l.length = n * sz) (h : AW P N own lc Q ((t, .gsl l n (L.length + k) sz) :: T) (L ++ (X ++ [.spare n sz]))) : AW P N own lc Q T (L ++ X) := by
  refine AW_grow t sz h1 h2 ?_
  rw [List.length_append, hk, List.append_assoc]; exact h


/-- A block's cells, told otherwise. -/
theorem Rel.reblk {w0 : World} {S0 : Nat → Prop} {E : Env} {L : List Blk} {w : World} (h : Rel w0 S0 E L w) {i : Nat} {c c' : List AV} (hL : L[i]? = some (.cells c)) (hlen : c'.length = c.length)
    (hv : ∀ (j : Nat) (a' : AV), c'[j]? = some a' → ∃ a, c[j]? = some a ∧ ∀ v, VR E a v → VR E a' v) : Rel w0 S0 E (L.set i (.cells c')) w := by
  have hi : i < L.length := (List.getElem?_eq_some_iff.1 hL).1
  have fix : ∀ (j : Nat) (k : Blk), (L.set i (.cells c'))[j]? = some k → k.live = true → ∃ k', L[j]? = some k' ∧ k'.live = true := fun j k hk hl => by
    rw [List.getElem?_set] at hk
    split at hk
    · rename_i e; subst e; exact ⟨_, hL, rfl⟩
    · exact ⟨k, hk, hl⟩
  have fixs : ∀ (j n sz : Nat), (L.set i (.cells c'))[j]? = some (.spare n sz) → L[j]? = some (.spare n sz) := fun j n sz hk => by
    rw [List.getElem?_set] at hk
    split at hk
    · cases hk
    · exact hk
  refine ⟨h.mem, fun j k hk => ?_, fun i hi => h.fresh i (by simpa using hi), fun i k c hk hl hc => ?_, fun i j k k' c c' hi li hj lj => ?_,
    fun i hi => h.tkfresh i (by simpa using hi), fun i n sz t d hi => h.tkown i n sz t d (fixs i n sz hi), fun i n sz t d j k' c' hi ht hd hj hl => ?_,
    fun i n sz t d i' n' sz' t' d' hi ht hd hi' => h.tkinj i n sz t d i' n' sz' t' d' (fixs i n sz hi) ht hd (fixs i' n' sz' hi'), h.frame, h.size, h.os, h.tape, h.output, h.glob, h.gsz⟩
  · rw [List.getElem?_set] at hk
    split at hk
    · rename_i e; subst e
      cases hk
      obtain ⟨cl, cs, ty, fr, g1, g2, g3, g4, g5, g6⟩ := h.blk _ _ hL
      refine ⟨cl, cs, ty, fr, g1, g2, g3, by rw [hlen]; exact g4, fun j a ha => ?_, g6⟩
      obtain ⟨b, hb, hbv⟩ := hv j a ha
      obtain ⟨v, h1, h2⟩ := g5 j b hb
      exact ⟨v, h1, hbv v h2⟩
    · exact h.blk j k hk
  · obtain ⟨k', h1, h2⟩ := fix i k hk hl
    exact h.own i k' c h1 h2 hc
  · obtain ⟨k1, h1, h2⟩ := fix i k hi li
    obtain ⟨k2, h3, h4⟩ := fix j k' hj lj
    exact h.inj i j k1 k2 c c' h1 h2 h3 h4
  · obtain ⟨k1, h1, h2⟩ := fix j k' hj hl
    exact h.tkloc i n sz t d j k1 c' (fixs i n sz hi) ht hd h1 h2

theorem VR.grow {E : Env} {l : List AV} {n i sz : Nat} {v : Value} (ht : E.tok i = some ⟨n, sz, none⟩) (h2 : l.length = n * sz) (h : VR E (.sl l n (some n)) v) : VR E (.gsl l n i sz) v := by
  simp only [VR] at h ⊢
  obtain ⟨p, c', q1, q2, q3, q4⟩ := h
  exact ⟨p, c', q1, q2, h2, q4, ⟨n, sz, none⟩, ht, Nat.le_refl _, fun _ => ⟨rfl, fun _ => q3 n rfl, by simp⟩⟩

/-- A nil row in a cell becomes a row that grows. -/
theorem AW_growC {P : Program} {N : Nat} {own : Nat → Nat → Nat} {Q : Exit → Tm → List Blk → Prop} {T : Tm} {L : List Blk} {lc : LCode} (i j sz : Nat) {c l : List AV} {n : Nat} (hL : L[i]? = some (.cells c)) (hj : c[j]? = some (.sl l n (some n))) (h2 : l.length = n * sz)
    (h : AW P N own lc Q T (L.set i (.cells (c.set j (.gsl l n L.length sz))) ++ [.spare n sz])) : AW P N own lc Q T L := fun cd hc w0 S0 E a w hst => by
  obtain ⟨r1, r2⟩ := hst.1.addtok (n := n) (sz := sz) (lc := none) Room_none
  have hi : i < L.length := (List.getElem?_eq_some_iff.1 hL).1
  have hL' : (L ++ [Blk.spare n sz])[i]? = some (.cells c) := by rw [List.getElem?_append_left hi]; exact hL
  have r3 := r2.reblk hL' (c' := c.set j (.gsl l n L.length sz)) (by simp) fun k a' ha => by
    rw [List.getElem?_set] at ha
    split at ha
    · rename_i e; subst e
      split at ha
      · cases ha
        exact ⟨_, hj, fun v hv => VR.grow (by simp) h2 hv⟩
      · cases ha
    · exact ⟨a', ha, fun v hv => hv⟩
  rw [List.set_append_left _ _ hi] at r3
  exact wp_mono (h cd hc w0 S0 _ a w ⟨r3, hst.2.1.mono r1, hst.2.2⟩) fun e a' w' ⟨E', T1, L1, k1, k2, k3⟩ => ⟨E', T1, L1, r1.trans k1, k2, k3⟩
end Go.Proofs.YtpednpndahgleaaGreatDoor.Av
