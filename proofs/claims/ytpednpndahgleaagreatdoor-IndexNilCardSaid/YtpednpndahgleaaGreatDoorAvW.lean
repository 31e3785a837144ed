/- Regions in any order, with effects among what only looks. No program in sight. -/
import Derived.Test.YtpednpndahgleaaGreatDoorAvR
set_option linter.unusedSimpArgs false
set_option linter.unusedVariables false
namespace Go.Proofs.YtpednpndahgleaaGreatDoor.Av
open Go

/-- An operation or a call that changes the call's own blocks, and to what. -/
def EQv (P : Program) (o : LOper) (T : Tm) (L : List Blk) (v : AV) (L2 : List Blk) : Prop :=
  match o.op with
  | .call f xs => match evXs T xs with
    | some args => ACall P f args L fun av L' => av = v ∧ L' = L2
    | none => False
  | .callv f xs => match evX T f, evXs T xs with
    | some (.func g caps), some args => ACall P g (args ++ caps) L fun av L' => av = v ∧ L' = L2
    | _, _ => False
  | lo => match evalOp T L lo with
    | some (c, av, L') => c ∧ av = v ∧ L' = L2
    | none => False
def EQ (P : Program) (o : LOper) (T : Tm) (L : List Blk) (v : AV) (L2 : List Blk) : Prop :=
  match o.guard with
  | none => EQv P o T L v L2
  | some (t, b) => match look T t with
    | some (.bool x) => if x = b then EQv P o T L v L2 else v = .tup [] ∧ L2 = L
    | some (.tup []) => v = .tup [] ∧ L2 = L
    | _ => False

theorem EQv.congr {P : Program} {o : LOper} {T T' : Tm} {L L2 : List Blk} {v : AV} (h1 : ∀ t ∈ o.op.tmps, look T t = look T' t) (hv : EQv P o T L v L2) : EQv P o T' L v L2 := by
  unfold EQv at hv ⊢
  split at hv
  · rename_i f xs e
    rw [e] at h1
    rw [← evXs_congr (l := xs) h1]; exact hv
  · rename_i f xs e
    rw [e] at h1
    simp only [LOp.tmps, List.mem_append] at h1
    rw [← evXs_congr (l := xs) (fun t ht => h1 t (.inr ht)), ← evX_congr (x := f) (fun t ht => h1 t (.inl ht))]; exact hv
  · rw [← evalOp_congr h1]; exact hv

theorem EQ.congr {P : Program} {o : LOper} {T T' : Tm} {L L2 : List Blk} {v : AV} (h : ∀ t ∈ o.reads, look T t = look T' t) (hq : EQ P o T L v L2) : EQ P o T' L v L2 := by
  have h1 : ∀ t ∈ o.op.tmps, look T t = look T' t := fun t ht => h t (by simp [LOper.reads, ht])
  unfold EQ at hq ⊢
  split at hq
  · exact hq.congr h1
  · rename_i t b hg
    rw [← h t (by simp [LOper.reads, hg])]
    split at hq
    · split at hq
      · rename_i e; rw [if_pos e]; exact hq.congr h1
      · rename_i e; rw [if_neg e]; exact hq
    · exact hq
    · exact hq.elim

theorem EQv.aop {P : Program} {o : LOper} {T : Tm} {L L2 : List Blk} {v : AV} (hq : EQv P o T L v L2) : AOp P o (fun T' L' => T' = putT o.dst v T ∧ L' = L2) T L := by
  unfold EQv at hq
  unfold AOp
  split at hq
  · rename_i f xs e
    simp only [e]
    split at hq
    · rename_i args ha
      rw [ha]
      exact ACall.mono hq fun av L' ⟨h1, h2⟩ => ⟨by rw [h1], h2⟩
    · exact hq.elim
  · rename_i f xs e
    simp only [e]
    split at hq
    · rename_i g caps args hf ha
      rw [hf, ha]
      exact ACall.mono hq fun av L' ⟨h1, h2⟩ => ⟨by rw [h1], h2⟩
    · exact hq.elim
  · rename_i lo h1 h2
    split at hq
    · rename_i c av L' he
      have hres : Res (fun T' L' => T' = putT o.dst v T ∧ L' = L2) o.dst T (evalOp T L o.op) := by
        rw [he]
        obtain ⟨hc, rfl, rfl⟩ := hq
        exact ⟨hc, rfl, rfl⟩
      obtain ⟨d, lop, g⟩ := o
      cases lop <;> first | exact hres | (simp [evalOp] at he)
    · exact hq.elim

theorem EQ.aops {P : Program} {o : LOper} {T : Tm} {L L2 : List Blk} {v : AV} (hq : EQ P o T L v L2) : AOps P (fun T' L' => T' = putT o.dst v T ∧ L' = L2) [o] T L := by
  unfold EQ at hq
  simp only [AOps]
  split at hq
  · rename_i hg
    simp only [hg]
    exact hq.aop
  · rename_i t b hg
    simp only [hg]
    split at hq
    · rename_i x hx
      rw [hx, Grd_bool]
      split at hq
      · rename_i e; rw [if_pos e]; exact hq.aop
      · rename_i e; rw [if_neg e]; exact ⟨by rw [hq.1], hq.2.symm⟩
    · rename_i hx
      rw [hx, Grd_tup]; exact ⟨by rw [hq.1], hq.2.symm⟩
    · exact hq.elim

/-- How many of the effects are done. -/
def done (es : List Nat) (listed : Array Bool) : Nat := es.countP fun e => listed.getD e false

theorem done_prefix : ∀ (es : List Nat) (f : Nat → Bool) (m : Nat), (∀ (j e : Nat), es[j]? = some e → f e = decide (j < m)) → m ≤ es.length → es.countP f = m
  | [], f, m, _, hm => by simp at hm; simp [hm]
  | e :: es, f, 0, h, _ => by
    refine List.countP_eq_zero.2 fun x hx => ?_
    obtain ⟨j, hj, rfl⟩ := List.mem_iff_getElem.1 hx
    have := h j _ (List.getElem?_eq_getElem hj)
    simp [this]
  | e :: es, f, m + 1, h, hm => by
    rw [List.countP_cons_of_pos (by have := h 0 e rfl; simpa using this)]
    rw [done_prefix es f m (fun j x hx => by have := h (j + 1) x (by simpa using hx); rw [this]; congr 1; simp) (by simpa using hm)]

theorem prefix_done : ∀ (es : List Nat) (f : Nat → Bool), (∀ (j j' e e' : Nat), es[j]? = some e → es[j']? = some e' → j < j' → f e' = true → f e = true) → ∀ (j e : Nat), es[j]? = some e → f e = decide (j < es.countP f)
  | [], f, _, j, e, h => by simp at h
  | x :: es, f, hp, j, e, h => by
    have ih := prefix_done es f fun a b y z h1 h2 h3 => hp (a + 1) (b + 1) y z (by simpa using h1) (by simpa using h2) (by omega)
    by_cases hx : f x = true
    · rw [List.countP_cons_of_pos hx]
      cases j with
      | zero => simp at h; subst h; simp [hx]
      | succ j => rw [ih j e (by simpa using h)]; congr 1; simp
    · have all : ∀ y ∈ es, f y = false := fun y hy => by
        obtain ⟨k, hk, rfl⟩ := List.mem_iff_getElem.1 hy
        rcases hf : f es[k] with _ | _
        · rfl
        · exact absurd (hp 0 (k + 1) x es[k] rfl (by simp) (by omega) hf) hx
      rw [List.countP_cons_of_neg hx, List.countP_eq_zero.2 (fun y hy => by simp [all y hy])]
      simp only [Nat.not_lt_zero, decide_false]
      cases j with
      | zero => simp at h; subst h; simpa using hx
      | succ j => exact all e (List.mem_of_getElem? (by simpa using h))

section
variable {P : Program} {w0 : World} {S0 : Nat → Prop} {N : Nat} {own : Nat → Nat} {ops : Array Oper} {L : List Blk}

theorem any_soundG {los : List LOper} {n : Nat} (hlow : lowOps P N own ops (List.range ops.size) = some los) (hok : drawOk ops los n = true) {qs ts : List LOper} (hsplit : los = qs ++ ts) (hn : qs.length = n) {es : List Nat} {Ms : Nat → List Blk} (hes : ∀ e ∈ es, e < qs.length)
    (hch : ∀ (j j' e e' : Nat), es[j]? = some e → es[j']? = some e' → j < j' → ((ctable ops.toList []).getD e' 0).testBit e = true)
    {K : Tm → List Blk → Prop} {T : Tm} {Q : Exit → Act → World → Prop} {E0 : Env} {tr : List AV} (htr : tr.length = qs.length)
    (hq : ∀ (i : Nat) (o : LOper) (v : AV), qs[i]? = some o → tr[i]? = some v → (∃ m, es[m]? = some i ∧ EQ P o (TL T qs tr 0 fun j => decide (j < i)) (Ms m) v (Ms (m + 1))) ∨
      (i ∉ es ∧ ∀ m, m ≤ es.length → (∀ (j e : Nat), es[j]? = some e → j < m → ((ctable ops.toList []).getD e 0).testBit i = false) → (∀ (j e : Nat), es[j]? = some e → m ≤ j → ((ctable ops.toList []).getD i 0).testBit e = false) → AQ P o (TL T qs tr 0 fun j => decide (j < i)) (Ms m) v))
    (hK : AOps P K ts (TL T qs tr 0 fun _ => true) (Ms es.length))
    (hQ : ∀ E' T' L' a' w', E0.le E' → K T' L' → St w0 S0 N E' T' L' a' w' → Q .normal a' w') :
    ∀ (fuel : Nat) (listed : Array Bool) (a : Act) (w : World) (E : Env), listed.size = ops.size → listed.toList.count false = fuel → Closed ops listed → E0.le E →
      (∀ i, qs.length ≤ i → listed.getD i false = false) → St w0 S0 N E (TL T qs tr 0 fun j => listed.getD j false) (Ms (done es listed)) a w → wpAny P .any ops Q fuel listed a w := by
  simp only [drawOk, Bool.and_eq_true] at hok
  generalize htbl : ctable ops.toList [] = tbl at hok hch hq
  obtain ⟨⟨⟨⟨hdist, htied⟩, hahead⟩, hfix⟩, hchain⟩ := hok
  have hget := lowOps_get hlow
  have hlen : los.length = ops.size := by simpa using hget.1
  have hlo : ∀ i, i < ops.size → ∃ lo, los[i]? = some lo ∧ lowOper P N own ops i = some lo := fun i hi => hget.2 i i (by simp [hi])
  have hD : Dist qs := by
    have := distB_spec hdist
    rw [hsplit] at this
    have sub : ∀ (qs ts : List LOper), Dist (qs ++ ts) → Dist qs := by
      intro qs
      induction qs with
      | nil => intro _ _; trivial
      | cons q qs ih => intro ts h; exact ⟨fun p hp => h.1 p (by simp [hp]), ih ts h.2⟩
    exact sub _ _ this
  have hqlen : qs.length + ts.length = ops.size := by rw [← hlen, hsplit]; simp
  -- a least one that is not listed is ready
  have allListed : ∀ listed : Array Bool, listed.size = ops.size → Region.ready .any ops listed = [] → ∀ i, i < ops.size → listed.getD i false = true := by
    intro listed hsz hr i
    induction i using Nat.strongRecOn with
    | _ i ih =>
      intro hi
      rcases hb : listed.getD i false with _ | _
      · exfalso
        have : i ∈ Region.ready .any ops listed := by
          refine mem_ready.2 ⟨?_, ops[i], Array.getElem?_eq_getElem hi, fun e he hbd => ?_⟩
          · have hi' : i < listed.size := by omega
            simp [Array.getD_eq_getD_getElem?, hi'] at hb ⊢
            exact hb
          · have := List.all_eq_true.1 hahead (ops[i], i) (by
              rw [List.mem_zipIdx_iff_getElem?]
              simp [hi])
            have := List.all_eq_true.1 this e (by simpa using he)
            simp only [hbd, Bool.not_true, Bool.false_or, decide_eq_true_eq] at this
            exact ih e.on this (by omega)
        rw [hr] at this; cases this
      · rfl
  have getD_eq : ∀ (listed : Array Bool) (i : Nat), listed.size = ops.size → i < ops.size → listed.getD i true = listed.getD i false := fun listed i h1 h2 => by
    have : i < listed.size := by omega
    simp [Array.getD_eq_getD_getElem?, this]
  -- when all quiet ones are listed
  have finish : ∀ (listed : Array Bool) (a : Act) (w : World) (E : Env) (fuel : Nat), listed.size = ops.size → listed.toList.count false = fuel → Closed ops listed → E0.le E → (∀ i, qs.length ≤ i → listed.getD i false = false) → St w0 S0 N E (TL T qs tr 0 fun j => listed.getD j false) (Ms (done es listed)) a w →
      (∀ i, i < qs.length → listed.getD i false = true) → wpAny P .any ops Q fuel listed a w := by
    intro listed a w E fuel hsz hcnt hcl hE hnot hst hall
    have hTL : TL T qs tr 0 (fun j => listed.getD j false) = TL T qs tr 0 fun _ => true := TL_ext fun j hj => by
      simp only [Nat.zero_add]; exact hall j hj
    have hL : Ms (done es listed) = Ms es.length := by
      congr 1
      exact List.countP_eq_length.2 fun e he => hall e (hes e he)
    rw [hTL, hL] at hst
    have hdrop : los.drop qs.length = ts := by rw [hsplit]; simp
    have hfuel : fuel = ts.length := by
      rw [← hcnt, ← Nat.add_left_cancel_iff (n := qs.length), hqlen, ← hsz]
      have e : listed.toList = List.replicate qs.length true ++ List.replicate (listed.size - qs.length) false := by
        apply List.ext_getElem?
        intro i
        rcases Nat.lt_or_ge i qs.length with h1 | h1
        · have := hall i h1
          have hlt : i < listed.size := by omega
          rw [List.getElem?_append_left (by simpa using h1)]
          simp [Array.getD_eq_getD_getElem?, hlt] at this
          simp [hlt, h1, this]
        · rw [List.getElem?_append_right (by simpa using h1)]
          have := hnot i h1
          rcases Nat.lt_or_ge i listed.size with h2 | h2
          · simp [Array.getD_eq_getD_getElem?, h2] at this
            simp only [List.length_replicate]
            rw [List.getElem?_replicate]
            rw [if_pos (by omega)]
            simp [h2, this]
          · rw [List.getElem?_eq_none (by simpa using h2), List.getElem?_eq_none (by simp; omega)]
      rw [e]
      simp [List.count_append, List.count_replicate]
      omega
    rw [hfuel]
    exact tail_sound hlow hahead hfix hchain hQ ts qs.length listed _ _ a w E (by omega) hqlen hdrop hsz (fun i hi => by
      rcases Nat.lt_or_ge i qs.length with h1 | h1
      · rw [hall i h1]; simpa using h1
      · rw [hnot i h1]; simpa using h1) hcl hE hst hK
  intro fuel
  induction fuel with
  | zero =>
    intro listed a w E hsz hcnt hcl hE hnot hst
    have hr : Region.ready .any ops listed = [] := by
      refine List.eq_nil_iff_forall_not_mem.2 fun i hi => ?_
      obtain ⟨h1, o, ho, _⟩ := mem_ready.1 hi
      have hi' : i < ops.size := (Array.getElem?_eq_some_iff.1 ho).1
      have : false ∈ listed.toList := by
        have hlt : i < listed.size := by omega
        simp [Array.getD_eq_getD_getElem?, hlt] at h1
        rw [← h1]; simp
      rw [List.count_eq_zero] at hcnt
      exact hcnt this
    exact finish listed a w E 0 hsz hcnt hcl hE hnot hst fun i hi => allListed listed hsz hr i (by omega)
  | succ fuel ih =>
    intro listed a w E hsz hcnt hcl hE hnot hst
    by_cases hall : ∀ i, i < qs.length → listed.getD i false = true
    · exact finish listed a w E _ hsz hcnt hcl hE hnot hst hall
    refine ⟨fun hr => absurd (fun i hi => allListed listed hsz hr i (by omega)) hall, fun i hi => ?_⟩
    obtain ⟨hun, o, ho, hedges⟩ := mem_ready.1 hi
    have hi' : i < ops.size := (Array.getElem?_eq_some_iff.1 ho).1
    have hun' : listed.getD i false = false := by rw [← getD_eq listed i hsz hi']; exact hun
    obtain ⟨lo, hlo1, hlo2⟩ := hlo i hi'
    have hready : ∀ o', ops[i]? = some o' → ∀ e ∈ o'.after, Region.binds .any e = true → listed.getD e.on false = true := fun o' ho' => by
      rw [ho] at ho'; cases ho'; exact hedges
    have hset : ∀ k, (listed.setIfInBounds i true).getD k false = if k = i then true else listed.getD k false := fun k => by
      by_cases e : k = i
      · subst e
        have : k < listed.size := by omega
        simp [Array.getD_eq_getD_getElem?, this]
      · rw [if_neg e]; exact getD_set_ne false (Ne.symm e)
    have hcnt' : (listed.setIfInBounds i true).toList.count false = fuel := by
      have hlt : i < listed.size := by omega
      have := count_set listed.toList i (by
        simp [Array.getD_eq_getD_getElem?, hlt] at hun'
        simp [hlt, hun'])
      rw [Array.toList_setIfInBounds]
      omega
    have hcl' : Closed ops (listed.setIfInBounds i true) := fun k o' hk ho' e he hb => by
      rw [hset] at hk ⊢
      by_cases e1 : e.on = i
      · rw [if_pos e1]
      · rw [if_neg e1]
        by_cases e2 : k = i
        · subst e2; exact hready o' ho' e he hb
        · rw [if_neg e2] at hk; exact hcl k o' hk ho' e he hb
    rcases Nat.lt_or_ge i qs.length with hiq | hiq
    · -- a quiet one
      have hqi : qs[i]? = some lo := by
        rw [hsplit, List.getElem?_append_left hiq] at hlo1; exact hlo1
      have hti : i < tr.length := by omega
      have agree : ∀ t ∈ lo.reads, look (TL T qs tr 0 fun j => decide (j < i)) t = look (TL T qs tr 0 fun j => listed.getD j false) t := by
        intro t ht
        by_cases hw : ∃ (j : Nat) (p : LOper), qs[j]? = some p ∧ p.dst = some t
        · obtain ⟨j, p, hp, hd⟩ := hw
          have hjq : j < qs.length := (List.getElem?_eq_some_iff.1 hp).1
          rw [TL_val hD htr hp hd, TL_val hD htr hp hd]
          have hlj : los[j]? = some p := by rw [hsplit, List.getElem?_append_left hjq]; exact hp
          have := List.all_eq_true.1 htied (lo, i) (by rw [List.mem_zipIdx_iff_getElem?]; simpa using hlo1)
          have := List.all_eq_true.1 this t ht
          have := List.all_eq_true.1 this (p, j) (by rw [List.mem_zipIdx_iff_getElem?]; simpa using hlj)
          simp only [hd, beq_self_eq_true, Bool.not_true, Bool.false_or, Bool.or_eq_true, List.contains_iff_mem] at this
          rcases this with h1 | h1
          · have e1 := clos_lt hahead hfix _ _ (by omega) h1
            have e2 := clos_listed hahead hfix hcl i j hi' hready h1
            simp only [decide_eq_true_eq, if_pos e1, if_pos e2]
          · have e1 := clos_lt hahead hfix _ _ (by omega) h1
            have e2 : listed.getD j false = false := by
              rcases hb : listed.getD j false with _ | _
              · rfl
              · have := clos_listed hahead hfix hcl j i (by omega) (fun o' ho' => hcl j o' hb ho') h1
                rw [hun'] at this; cases this
            simp only [decide_eq_true_eq, if_neg (show ¬ j < i by omega), e2, Bool.false_eq_true, if_false]
        · have hno : ∀ (j : Nat) (p : LOper), qs[j]? = some p → p.dst ≠ some t := fun j p hp hd => hw ⟨j, p, hp, hd⟩
          rw [TL_out hno, TL_out hno]
      have hTnew : ∀ (t : Nat) (v : AV), look (TL T qs tr 0 fun j => (listed.setIfInBounds i true).getD j false) t = some v → look (putT lo.dst tr[i] (TL T qs tr 0 fun j => listed.getD j false)) t = some v := by
        intro t v hv
        by_cases hw : ∃ (j : Nat) (p : LOper), qs[j]? = some p ∧ p.dst = some t
        · obtain ⟨j, p, hp, hd⟩ := hw
          rw [TL_val hD htr hp hd] at hv
          by_cases e : j = i
          · subst e
            rw [hqi] at hp; cases hp
            rw [hd, look_putT_eq]
            rw [if_pos (by rw [hset, if_pos rfl]), List.getElem?_eq_getElem hti] at hv
            exact hv
          · have hne : lo.dst ≠ some t := fun e' => e (Dist_unique hD hp hqi hd e')
            rw [look_putT_ne hne, TL_val hD htr hp hd]
            simp only [hset, if_neg e] at hv
            exact hv
        · have hno : ∀ (j : Nat) (p : LOper), qs[j]? = some p → p.dst ≠ some t := fun j p hp hd => hw ⟨j, p, hp, hd⟩
          rw [TL_out hno] at hv
          rw [look_putT_ne (hno i lo hqi), TL_out hno]
          exact hv
      have hnot' : ∀ k, qs.length ≤ k → (listed.setIfInBounds i true).getD k false = false := fun k hk => by
        rw [hset, if_neg (by omega)]; exact hnot k hk
      -- the effects that are done are the first
      have hpre : ∀ j e, es[j]? = some e → listed.getD e false = decide (j < done es listed) := prefix_done es _ fun j j' e e' h1 h2 h3 h4 => by
        have hlt : e' < ops.size := by have := hes e' (List.mem_of_getElem? h2); omega
        exact clos_listed hahead hfix hcl e' e hlt (fun o' ho' => hcl e' o' h4 ho') (hch j j' e e' h1 h2 h3)
      have hdl : done es listed ≤ es.length := List.countP_le_length
      rcases hq i lo tr[i] hqi (List.getElem?_eq_getElem hti) with ⟨m, g1, g2⟩ | ⟨g1, g2⟩
      · have hm : done es listed = m := by
          have h1 := hpre m i g1
          rw [hun'] at h1
          have h2 : ¬ m < done es listed := by simpa using h1.symm
          rcases Nat.lt_or_ge (done es listed) m with h3 | h3
          · obtain ⟨e, he⟩ : ∃ e, es[done es listed]? = some e := ⟨_, List.getElem?_eq_getElem (by have := (List.getElem?_eq_some_iff.1 g1).1; omega)⟩
            have h4 := hpre _ e he
            rw [clos_listed hahead hfix hcl i e hi' hready (hch _ _ e i he g1 h3)] at h4
            simp at h4
          · omega
        have hm' : done es (listed.setIfInBounds i true) = m + 1 := by
          refine done_prefix es _ (m + 1) (fun j e he => ?_) (by have := (List.getElem?_eq_some_iff.1 g1).1; omega)
          rw [hset]
          by_cases e1 : e = i
          · subst e1
            rw [if_pos rfl]
            rcases Nat.lt_trichotomy j m with h3 | h3 | h3
            · simp; omega
            · simp; omega
            · have := clos_lt hahead hfix e e hi' (hch m j e e g1 he h3)
              omega
          · rw [if_neg e1, hpre j e he, hm]
            have : j ≠ m := fun e2 => by subst e2; rw [g1] at he; cases he; exact e1 rfl
            congr 1; simp only [eq_iff_iff]; omega
        rw [hm] at hst
        refine aop1_sound hlo2 hst (EQ.aops (EQ.congr agree g2)) fun E' T' L' a' w' hle ⟨e1, e2⟩ hst' => ih _ a' w' E' (by simpa using hsz) hcnt' hcl' (hE.trans hle) hnot' ?_
        subst e1; subst e2
        rw [hm']
        exact hst'.weak hTnew rfl fun _ _ e => .inr e
      · have hL : done es (listed.setIfInBounds i true) = done es listed := by
          unfold done
          refine List.countP_congr fun e he => ?_
          rw [hset, if_neg (fun e1 : e = i => g1 (e1 ▸ he))]
        have hAQ := g2 (done es listed) hdl (fun j e he hj => by
          rcases hb : (tbl.getD e 0).testBit i with _ | _
          · rfl
          · have h1 := hpre j e he
            rw [decide_eq_true hj] at h1
            have hlt : e < ops.size := by have := hes e (List.mem_of_getElem? he); omega
            have := clos_listed hahead hfix hcl e i hlt (fun o' ho' => hcl e o' h1 ho') hb
            rw [hun'] at this; cases this) (fun j e he hj => by
          rcases hb : (tbl.getD i 0).testBit e with _ | _
          · rfl
          · have h1 := hpre j e he
            rw [clos_listed hahead hfix hcl i e hi' hready hb] at h1
            have := of_decide_eq_true h1.symm
            omega)
        refine aq_sound hlo2 hst (hAQ.congr agree) fun E' a' w' hle hst' => ih _ a' w' E' (by simpa using hsz) hcnt' hcl' (hE.trans hle) hnot' ?_
        rw [hL]
        exact hst'.weak hTnew rfl fun _ _ e => .inr e
    · -- one of the chain: it isn't its turn
      refine absurd (fun j hj => ?_) hall
      have h1 := List.all_eq_true.1 hchain i (by simpa using hi')
      simp only [Bool.or_eq_true, decide_eq_true_eq] at h1
      rcases h1 with h2 | h2
      · omega
      · have h3 := List.all_eq_true.1 h2 j (by simp; omega)
        exact clos_listed hahead hfix hcl i j hi' hready h3
end
end Go.Proofs.YtpednpndahgleaaGreatDoor.Av
