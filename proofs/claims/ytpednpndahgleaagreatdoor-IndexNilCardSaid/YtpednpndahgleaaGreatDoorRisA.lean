/- A set's keys, rising: over abstract values. -/
import Derived.Test.YtpednpndahgleaaGreatDoorRisK
import Derived.Test.YtpednpndahgleaaGreatDoorAvLf
import Derived.Test.YtpednpndahgleaaGreatDoorExE
set_option linter.unusedSimpArgs false
set_option linter.unusedVariables false
namespace Go.Proofs.YtpednpndahgleaaGreatDoor.Av
open Go

/-- What is new stays from now on. -/
theorem Rel.grownNew {w0 : World} {S0 : Nat → Prop} {E : Env} {L : List Blk} {w w' : World} (h : Rel w0 S0 E L w) (g : Grew w w') :
    ∃ E', E.le E' ∧ Rel w0 S0 E' L w' ∧ ∀ b o v, w.heap.size ≤ b → w'.cell? ⟨b, o, none⟩ = some v → E'.mem b o = some v := by
  have h' := h.grown g
  have hle : E.le { E with mem := fun b o => if w.heap.size ≤ b then w'.cell? ⟨b, o, none⟩ else E.mem b o } := ⟨fun b o v hv => by
    show (if w.heap.size ≤ b then w'.cell? ⟨b, o, none⟩ else E.mem b o) = some v
    have := h.mem_lt hv
    rw [if_neg (by omega)]; exact hv, fun _ _ x => x, fun _ t ht => ⟨t, ht, .inl rfl⟩⟩
  refine ⟨_, hle, ⟨fun b o v hv => ?_, fun i k hk => ?_, h'.fresh, fun i k c hk hl hc => ⟨fun o => ?_, (h'.own i k c hk hl hc).2⟩, h'.inj, h'.tkfresh, fun i n sz t d hi ht hd => ⟨fun o ho => ?_, (h'.tkown i n sz t d hi ht hd).2⟩, h'.tkloc, h'.tkinj, h'.frame, h'.size, h'.os, h'.tape, h'.output, h'.glob.mono hle.mem, h'.gsz⟩, fun b o v hb hv => ?_⟩
  · have hv : (if w.heap.size ≤ b then w'.cell? ⟨b, o, none⟩ else E.mem b o) = some v := hv
    split at hv
    · exact hv
    · exact h'.mem b o v hv
  · rcases hl : k.live with _ | _
    · exact BRel.still (E := E) hl rfl (fun _ _ _ _ _ _ _ => rfl) (h'.blk i k hk)
    · exact BRel.mono hle hl (h'.blk i k hk)
  · have hc : E.loc i = some c := hc
    show (if w.heap.size ≤ c.blk then w'.cell? ⟨c.blk, o, none⟩ else E.mem c.blk o) = none
    have := h.loc_lt hk hl hc
    rw [if_neg (by omega)]; exact (h.own i k c hk hl hc).1 o
  · have ht : E.tok i = some t := ht
    show (if w.heap.size ≤ d.blk then w'.cell? ⟨d.blk, o, none⟩ else E.mem d.blk o) = none
    have := h.tok_lt hi ht hd
    rw [if_neg (by omega)]; exact (h.tkown i n sz t d hi ht hd).1 o ho
  · show (if w.heap.size ≤ b then w'.cell? ⟨b, o, none⟩ else E.mem b o) = some v
    rw [if_pos hb]; exact hv

/-- A contract with a result that lies in new memory. -/
theorem ACall_new {P : Program} {f : FuncId} {fn : Func} (hf : P.funcs[f]? = some fn) (hb : fn.body.isSome = true) (hn : (fn.name == "runtime.NumGoroutine") = false) {args : List AV} {L : List Blk} {K : AV → List Blk → Prop} {r : AV}
    (hc : ∀ (w0 : World) (S0 : Nat → Prop) (E : Env) (w : World) (vs : List Value), Rel w0 S0 E L w → VRL E args vs → Calls P f ⟨vs⟩ w fun e w' => ∃ v, e = .returned v ∧ Grew w w' ∧ ∀ E' : Env, E.le E' → (∀ b o v, w.heap.size ≤ b → w'.cell? ⟨b, o, none⟩ = some v → E'.mem b o = some v) → VR E' r v) (hk : K r L) : ACall P f args L K := fun w0 S0 E w vs hR hv => by
  refine .inl ⟨?_, (hc w0 S0 E w vs hR hv).mono fun e w' ⟨v, h1, h3, h2⟩ => by
    obtain ⟨E', g1, g2, g3⟩ := hR.grownNew h3
    exact ⟨E', v, r, L, h1, g1, hk, h2 E' g1 g3, g2⟩⟩
  simp only [callFunc, Sem.run_bind, run_program, Result.andThen_ok, hf, hn]
  cases h : fn.body with
  | none => simp [h] at hb
  | some c => simp

def insI (x : Int) : List Int → List Int
  | [] => [x]
  | y :: l => if x ≤ y then x :: y :: l else y :: insI x l
def isortI (l : List Int) : List Int := l.foldr insI []
theorem insI_perm (x : Int) : ∀ l : List Int, (insI x l).Perm (x :: l)
  | [] => .refl _
  | y :: l => by
    unfold insI
    split
    · exact .refl _
    · exact ((insI_perm x l).cons y).trans (.swap x y l)
theorem isortI_perm : ∀ l : List Int, (isortI l).Perm l
  | [] => .refl _
  | x :: l => (insI_perm x _).trans ((isortI_perm l).cons x)
theorem insI_pw (x : Int) : ∀ l : List Int, l.Pairwise (· ≤ ·) → (insI x l).Pairwise (· ≤ ·)
  | [], _ => by simp [insI]
  | y :: l, h => by
    have h' := List.pairwise_cons.1 h
    unfold insI
    split
    · rename_i hle
      refine List.pairwise_cons.2 ⟨fun z hz => ?_, h⟩
      rcases List.mem_cons.1 hz with rfl | hz
      · exact hle
      · exact Int.le_trans hle (h'.1 z hz)
    · rename_i hle
      refine List.pairwise_cons.2 ⟨fun z hz => ?_, insI_pw x l h'.2⟩
      rcases List.mem_cons.1 ((insI_perm x l).mem_iff.1 hz) with rfl | hz
      · omega
      · exact h'.1 z hz
theorem isortI_pw : ∀ l : List Int, (isortI l).Pairwise (· ≤ ·)
  | [] => .nil
  | x :: l => insI_pw x _ (isortI_pw l)
theorem isortI_eq (l : List Int) : l.mergeSort (fun x y => decide (x ≤ y)) = isortI l := by
  refine List.Perm.eq_of_pairwise (le := fun a b => a ≤ b) (fun a b _ _ h1 h2 => Int.le_antisymm h1 h2) ?_ (isortI_pw l) ((List.mergeSort_perm l _).trans (isortI_perm l).symm)
  have := List.pairwise_mergeSort (le := fun x y : Int => decide (x ≤ y)) (fun a b c h1 h2 => by simp only [decide_eq_true_eq] at *; omega) (fun a b => by simp only [Bool.or_eq_true, decide_eq_true_eq]; omega) l
  exact this.imp fun h => by simpa using h

/-- Keys that are numbers. -/
def mkeysI : List (AV × AV × Nat) → Option (List Int)
  | [] => some []
  | (.int .i64 k, _, _) :: l => (mkeysI l).map (k :: ·)
  | _ => none
def nodupB : List Nat → Bool
  | [] => true
  | x :: l => !l.contains x && nodupB l
def nodupI : List Int → Bool
  | [] => true
  | x :: l => !l.contains x && nodupI l
theorem nodupB_ok : ∀ {l : List Nat}, nodupB l = true → l.Nodup
  | [], _ => List.nodup_nil
  | x :: l, h => by
    simp only [nodupB, Bool.and_eq_true, Bool.not_eq_true', List.contains_eq_mem, decide_eq_false_iff_not] at h
    exact List.nodup_cons.2 ⟨h.1, nodupB_ok h.2⟩
theorem nodupI_ok : ∀ {l : List Int}, nodupI l = true → l.Nodup
  | [], _ => List.nodup_nil
  | x :: l, h => by
    simp only [nodupI, Bool.and_eq_true, Bool.not_eq_true', List.contains_eq_mem, decide_eq_false_iff_not] at h
    exact List.nodup_cons.2 ⟨h.1, nodupI_ok h.2⟩
/-- A map as maps are. -/
def mapFine (es : List (AV × AV × Nat)) (ck : Nat) (ks : List Int) : Bool :=
  ks.all (fun k => decide (-9223372036854775808 ≤ k ∧ k ≤ 9223372036854775807)) && nodupI ks && nodupB (es.map (·.2.2)) && es.all (fun e => decide (e.2.2 < ck)) && decide (es.length ≤ 1000)

theorem mkeys_rel {E : Env} : ∀ {es : List (AV × AV × Nat)} {rs : List MapEntry} {ks : List Int}, MapRel E es rs → mkeysI es = some ks → rs.map (·.key) = ks.map (Value.int .i64) ∧ rs.map (·.born) = es.map (·.2.2)
  | [], rs, ks, hm, hk => by
    simp only [MapRel] at hm; subst hm
    simp only [mkeysI, Option.some.injEq] at hk; subst hk
    exact ⟨rfl, rfl⟩
  | (q, x, b) :: es, rs, ks, hm, hk => by
    simp only [MapRel] at hm
    obtain ⟨e, t, rfl, h1, h2, h3, h4⟩ := hm
    cases q <;> try (simp [mkeysI] at hk; done)
    rename_i kd k
    cases kd <;> simp only [mkeysI, reduceCtorEq, Option.map_eq_some_iff] at hk
    obtain ⟨ks', h5, rfl⟩ := hk
    obtain ⟨i1, i2⟩ := mkeys_rel h4 h5
    simp only [VR] at h1
    exact ⟨by simp [h1, i1], by simp [h3, i2]⟩

open Go.RowKit Go.Maps Go.Sort Go.MapKept in
theorem rising_k {L : List Blk} {i ck : Nat} {es : List (AV × AV × Nat)} {ks : List Int} (hi : L[i]? = some (.map es ck)) (hks : mkeysI es = some ks) (hf : mapFine es ck ks = true) {K : AV → List Blk → Prop} (h : K (.sl ((isortI ks).map (AV.int .i64)) ks.length none) L) : ACall Tryz.prog 47 [.lmap i] L K := by
  refine ACall_new Tryz.func47 rfl (by kernel_rfl) (fun w0 S0 E w vs hR hv => ?_) h
  simp only [VRL] at hv
  obtain ⟨v, _, rfl, hv, rfl⟩ := hv
  obtain ⟨c, rs, hc, rfl, hb, hm⟩ := map_blk hR hi hv
  obtain ⟨hk1, hk2⟩ := mkeys_rel hm hks
  simp only [mapFine, Bool.and_eq_true, List.all_eq_true, decide_eq_true_eq] at hf
  obtain ⟨⟨⟨⟨f1, f2⟩, f3⟩, f4⟩, f5⟩ := hf
  have hlen : rs.size = es.length := by have := MapRel.len hm; simpa using this
  have hkl : ks.length = es.length := by
    have := congrArg List.length hk1
    simp at this; omega
  have hkey : ∀ (k : Int), k ∈ ks → keyOf Tryz.prog 3 (.int .i64 k) = some (.int .i64 k) := fun k hk => by
    have hw : (Lit.int .i64 k).wf = true := by
      have := f1 k hk
      simp only [Lit.wf, Bool.and_eq_true, decide_eq_true_eq]
      exact this
    unfold keyOf mapKey
    rw [show (Tryz.prog).underlying 3 = some (.int .i64) from Tryz.underlying3]
    simp [hw]
  have hmem : ∀ x ∈ rs.toList, ∃ k, k ∈ ks ∧ x.key = .int .i64 k := fun x hx => by
    have : x.key ∈ rs.toList.map (·.key) := List.mem_map.2 ⟨x, hx, rfl⟩
    rw [hk1] at this
    obtain ⟨k, h1, h2⟩ := List.mem_map.1 this
    exact ⟨k, h1, h2.symm⟩
  have hrd : ∀ x ∈ rs.toList, ∀ k, k ∈ ks → x.key = .int .i64 k → Go.WideElems.rd Tryz.prog 3 (fun _ => some ((.nil : DataW Unit), [])) x = some (.int .i64 k, .nil) := fun x hx k hk e => by
    simp [Go.WideElems.rd, e, hkey k hk]
  have hown : w.ownsMap Tryz.prog 3 (fun _ => some ((.nil : DataW Unit), [])) c.blk rs.size (.map ((rs.toList.map (Go.WideElems.rg Tryz.prog 3 (fun _ => some ((.nil : DataW Unit), [])))).foldr DataW.insert [])) := by
    refine ⟨rs, ck, hb, ⟨by simp only [maxLen]; omega, ⟨fun x hx => ?_, ?_, ?_⟩, fun x hx => ?_⟩, Nat.le_refl _, rfl⟩
    · have : x.born ∈ rs.toList.map (·.born) := List.mem_map.2 ⟨x, hx, rfl⟩
      rw [hk2] at this
      obtain ⟨e, h1, h2⟩ := List.mem_map.1 this
      rw [← h2]; exact f4 e h1
    · rw [hk2]; exact nodupB_ok f3
    · rw [hk1]
      exact List.Pairwise.map (Value.int .i64) (fun a b hab e => hab (by simpa using e)) (nodupI_ok f2)
    · obtain ⟨k, h1, h2⟩ := hmem x hx
      exact ⟨_, hrd x hx k h1 h2⟩
  have hperm : (intKeys (.map ((rs.toList.map (Go.WideElems.rg Tryz.prog 3 (fun _ => some ((.nil : DataW Unit), [])))).foldr DataW.insert []))).Perm ks := by
    have e1 : (rs.toList.map (Go.WideElems.rg Tryz.prog 3 (fun _ => some ((.nil : DataW Unit), [])))).map (fun p => _root_.Go.intOf p.1) = ks := by
      have e2 : rs.toList.map (fun x => _root_.Go.intOf ((Go.WideElems.rg Tryz.prog 3 (fun _ => some ((.nil : DataW Unit), []))) x).1) = rs.toList.map fun x => (match x.key with | .int _ n => n | _ => 0) := by
        refine List.map_congr_left fun x hx => ?_
        obtain ⟨k, h1, h2⟩ := hmem x hx
        rw [Go.WideElems.rg_of (hrd x hx k h1 h2), h2]
        rfl
      simp only [List.map_map, Function.comp_def]
      rw [e2]
      have e3 : (rs.toList.map (·.key)).map (fun v : Value => match v with | .int _ n => n | _ => 0) = ks := by
        rw [hk1, List.map_map]
        exact List.map_id' ks
      simp only [List.map_map, Function.comp_def] at e3
      exact e3
    have := (WideShapes.sorted_perm (rs.toList.map (Go.WideElems.rg Tryz.prog 3 (fun _ => some ((.nil : DataW Unit), []))))).map (fun p => _root_.Go.intOf p.1)
    rw [e1] at this
    exact this
  have hsz : Maps.size (.map ((rs.toList.map (Go.WideElems.rg Tryz.prog 3 (fun _ => some ((.nil : DataW Unit), [])))).foldr DataW.insert [])) = rs.size := by
    rw [Maps.size_eq, (WideShapes.sorted_perm _).length_eq]; simp
  refine (ris_calls c.blk rs.size _ _ w hown (by rw [hsz]; simp only [maxLen]; omega) (by rw [hsz]; omega)).mono ?_
  rintro e w' ⟨v, ss, rfl, hS, hrow, hnil, hbel⟩
  refine ⟨v, rfl, ⟨fun b hb => hbel.block b hb, hbel.size, hbel.os, hbel.tape, hbel.output⟩, fun E' hE hnew => ?_⟩
  have hp : ss.Perm ks := hS.trans hperm
  have hms : ss.mergeSort (fun x y => decide (x ≤ y)) = isortI ks := by
    rw [← isortI_eq]
    exact mergeSort_of_perm_i hp
  rw [hms] at hrow
  have hl2 : ss.length = ks.length := hp.length_eq
  simp only [VR]
  rcases hrow.2 with ⟨rfl, hz⟩ | ⟨g, cap, cur, rfl, hg, hcur, h1, h2, h3, h4⟩
  · refine ⟨none, 0, by rw [hl2] at hz; rw [hz], by omega, (fun k hk => by cases hk), .inl ⟨by omega, rfl, ?_⟩⟩
    have : (isortI ks).length = 0 := by rw [(isortI_perm ks).length_eq]; omega
    rw [List.length_eq_zero_iff.1 this]; rfl
  · refine ⟨some ⟨g, 0, none⟩, cap, by rw [hl2], by omega, (fun k hk => by cases hk), .inr ⟨g, 0, rfl, VRC.of_get fun j a ha => ?_⟩⟩
    obtain ⟨z, hz, rfl⟩ := Option.map_eq_some_iff.1 (List.getElem?_map .. ▸ ha)
    refine ⟨.int .i64 z, ?_, by simp [VR]⟩
    refine hnew g (0 + j) _ hg ?_
    have hj : j < (isortI ks).length := (List.getElem?_eq_some_iff.1 hz).1
    have h5 : (cur.toList.take (ss.length * 1))[j]? = some (Value.int .i64 z) := by
      rw [h4, List.getElem?_map, hz]; rfl
    rw [List.getElem?_take] at h5
    split at h5
    · simp only [World.cell?, hcur]
      simpa using h5
    · cases h5

theorem rising_nil {L : List Blk} {K : AV → List Blk → Prop} (h : K (.sl [] 0 (some 0)) L) : ACall Tryz.prog 47 [.nilmap] L K := by
  refine ACall_new Tryz.func47 rfl (by kernel_rfl) (fun w0 S0 E w vs hR hv => ?_) h
  simp only [VRL, VR] at hv
  obtain ⟨_, _, rfl, rfl, rfl⟩ := hv
  refine (ris_calls_nil w).mono ?_
  rintro e w' ⟨rfl, hbel⟩
  refine ⟨_, rfl, ⟨fun b hb => hbel.block b hb, hbel.size, hbel.os, hbel.tape, hbel.output⟩, fun E' hE hnew => ?_⟩
  simp only [VR]
  exact ⟨none, 0, rfl, Nat.le_refl _, (fun k hk => by cases hk; rfl), .inl (by simp)⟩
end Go.Proofs.YtpednpndahgleaaGreatDoor.Av
