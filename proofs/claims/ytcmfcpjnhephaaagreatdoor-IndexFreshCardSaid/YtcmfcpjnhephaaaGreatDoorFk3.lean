/- Joined texts of the walk, made small by a program. -/
import Derived.Test.YtcmfcpjnhephaaaGreatDoorFk2
import Derived.MapKept
set_option linter.unusedSimpArgs false
set_option linter.unusedVariables false
namespace Go.Proofs.YtcmfcpjnhephaaaGreatDoor.Av
open Go
section
variable {P:Program} {w0:World} {S0:SB} {E:Env} {L:List Blk} {w:World} {T:Tm} {a:Act}
theorem Uo {own:Nat} {s d:TypeId} {x:Operand} {x':Opd} {lo:LOp} {c:Prop} {av:AV} {L':List Blk} (hR:Rel w0 S0 E L w) (hT:TR E T a) (hx:bB x=some x') (hl:rr P own s d x'=some lo) (he:ah T L lo=some (c,av,L')) (hc:c) :
  dB P w0 S0 E L' av w (do pure (.value (<- convert s d (a.eval x)))):=by
 unfold rr at hl;split at hl
 ·rename_i j k hs hd
  cases hl;simp only [ah] at he;split at he<;>try cases he
  rename_i q n h1
  exact (Tg hR ⟨j,hs⟩ hd (ag hx h1 hT)).done
 ·rename_i hs hd
  cases hl;simp only [ah] at he;split at he<;>try cases he
  rename_i l h1
  exact (QW hR hs hd (ag hx h1 hT) ⟨l,rfl⟩).done
 ·rename_i e hs hd
  split at hl<;>try cases hl
  rename_i he'
  simp only [ah] at he;split at he<;>try cases he
  rename_i u hn h1
  split at he<;>try cases he
  rename_i c' l n h2
  exact (Vs hR hs he' hd (ag hx h1 hT) h2 hc.1 hc.2 (fun t e=>hn t e)).done
 ·rename_i e hs hd
  split at hl<;>try cases hl
  rename_i he'
  repeat' split at hl
  all_goals cases hl
  ·simp only [ah] at he;split at he<;>try cases he
   rename_i s' h1
   exact (S9 hR hs hd he' (ag hx h1 hT)).done
  ·simp only [ah] at he;split at he<;>try cases he
   rename_i s' h1
   exact (Ta hR hs hd he' (ag hx h1 hT)).done
  ·simp only [ah] at he;split at he<;>try cases he
   rename_i s' h1
   exact (Vp hR hs hd he' (ag hx h1 hT)).done
 ·cases hl
theorem RR {xs:List Operand} {ys:List Opd} (h:ky xs=some ys):ys.length=xs.length/\∀ (i:Nat) (y:Opd),ys[i]?=some y->∃ x,xs[i]?=some x/\bB x=some y:=by
 induction xs generalizing ys with
 | nil=>simp [ky] at h;subst h;simp
 | cons x xs ih =>
   simp only [ky,abD] at h;rcases h1:bB x with _|y
   ·simp [h1] at h
   ·rcases h2:xs.mapM bB with _|ys'
    ·simp [h1,h2] at h
    ·simp [h1,h2] at h;subst h;have:=ih (by simpa [ky] using h2);refine ⟨by simp [this.1],fun i z hz=>?_⟩;cases i with
     | zero=>simp at hz;subst hz;exact ⟨x,by simp,h1⟩
     | succ i=>simpa using this.2 i z (by simpa using hz)
theorem VZ {xs:List Operand} {y:Opd} (h:ky xs=some [y]):∃ x,xs=[x]/\bB x=some y:=by
 have:=RR h
 match xs,this with
 | [x],⟨_,h2⟩ =>
   obtain ⟨z,h3,h4⟩:=h2 0 y (by simp);simp at h3;subst h3;exact ⟨x,rfl,h4⟩
theorem PY {xs:List Operand} {y z:Opd} (h:ky xs=some [y,z]):∃ u v,xs=[u,v]/\bB u=some y/\bB v=some z:=by
 have:=RR h
 match xs,this with
 | [u,v],⟨_,h2⟩ =>
   obtain ⟨p,h3,h4⟩:=h2 0 y (by simp);simp at h3;subst h3;obtain ⟨q,h5,h6⟩:=h2 1 z (by simp);simp at h5;subst h5;exact ⟨u,v,rfl,h4,h6⟩
theorem WG {own:Nat} {t:TypeId} {y:Opd} {xs:List Operand} {ty:TypeId} {cs:Array Bool} {lo:LOp} {c:Prop} {av:AV} {L':List Blk} (hR:Rel w0 S0 E L w) (hT:TR E T a) (hx:ky xs=some [y])
  (hl:cJ P own .len [t] [y]=some lo) (he:ah T L lo=some (c,av,L')):dB P w0 S0 E L' av w (builtin .len ⟨[t]⟩ ty cs ⟨xs.map a.eval⟩):=by
 obtain ⟨x,rfl,hx'⟩:=VZ hx;have run:∀ (n:Int),(Builtin.len_ #[t] ty #[a.eval x]).run P w=.ok (.int .i64 n) w->dB P w0 S0 E L (.int .i64 n) w (builtin .len ⟨[t]⟩ ty cs ⟨[x].map a.eval⟩):=fun n h=>.same hR (v:=.int .i64 n) (by simp [builtin,h]) (by simp [VR])
 simp only [cJ] at hl;split at hl
 ·rename_i hd
  cases hl;simp only [ah] at he;split at he<;>try cases he
  rename_i s h1
  have hv:=ag hx' h1 hT;simp only [VR] at hv;have hsz:(ByteArray.mk ⟨s⟩).size=s.length:=rfl;exact run _ (by simp only [Builtin.len_,abE,aao,ZG,run_underlying hd,ZH,hv,goInt,hsz,Z3])
 ·rename_i e hd
  cases hl;simp only [ah] at he;split at he<;>try cases he
  all_goals rename_i h1;have hv:=ag hx' h1 hT
  ·simp only [VR] at hv;exact run _ (by simp [Builtin.len_,run_underlying hd,hv,goInt])
  ·simp only [VR] at hv;obtain ⟨_,_,hv,_⟩:=hv;exact run _ (by simp [Builtin.len_,run_underlying hd,hv,goInt])
  ·simp only [VR] at hv;obtain ⟨_,_,hv,_⟩:=hv;exact run _ (by simp [Builtin.len_,run_underlying hd,hv,goInt])
  ·obtain ⟨_,_,hv⟩:=hv.lsl_shape;exact run _ (by simp [Builtin.len_,run_underlying hd,hv,goInt])
 ·rename_i n e hd
  cases hl;simp only [ah,evX,ZV,ZB,ZL] at he;obtain ⟨rfl,rfl,rfl⟩:=he;exact run _ (by simp [Builtin.len_,run_underlying hd,goInt])
 ·rename_i kt et hd
  cases hl;simp only [ah] at he;split at he<;>try cases he
  all_goals rename_i h1;have hv:=ag hx' h1 hT
  ·simp only [VR] at hv;exact run _ (by simp [Builtin.len_,run_underlying hd,hv,goInt])
  ·split at he<;>try cases he
   rename_i es ck h2
   simp only [VR] at hv;obtain ⟨d,hd1,hv⟩:=hv;obtain ⟨d',rs,g1,g2,g3⟩:=hR.blk _ _ h2;rw [hd1] at g1;cases g1;have hlen:∀ {es:List (AV×AV×Nat)} {rs:List MapEntry},au E es rs->rs.length=es.length:=by
    intro es
    induction es with
    | nil=>intro rs h;simp only [au] at h;subst h;rfl
    | cons p es ih=>intro rs h;obtain ⟨q,y,b⟩:=p;obtain ⟨f,s,rfl,_,_,_,g4⟩:=h;simp [ih g4]
   have hg:(getObj d.blk).run P w=.ok (.map rs ck) w:=by simp [getObj,Sem.run,g2]
   have hl2:rs.size=es.length:=by rw [<- hlen g3];simp
   exact run _ (by simp [Builtin.len_,run_underlying hd,hv,goInt,hg,hl2])
 ·cases hl
theorem WI {own:Nat} {t:TypeId} {y:Opd} {xs:List Operand} {ty:TypeId} {cs:Array Bool} {lo:LOp} {c:Prop} {av:AV} {L':List Blk} (hR:Rel w0 S0 E L w) (hT:TR E T a) (hx:ky xs=some [y])
  (hl:cJ P own .cap [t] [y]=some lo) (he:ah T L lo=some (c,av,L')):dB P w0 S0 E L' av w (builtin .cap ⟨[t]⟩ ty cs ⟨xs.map a.eval⟩):=by
 obtain ⟨x,rfl,hx'⟩:=VZ hx;have run:∀ (n:Int),(Builtin.cap_ #[t] ty #[a.eval x]).run P w=.ok (.int .i64 n) w->dB P w0 S0 E L (.int .i64 n) w (builtin .cap ⟨[t]⟩ ty cs ⟨[x].map a.eval⟩):=fun n h=>.same hR (v:=.int .i64 n) (by simp [builtin,h]) (by simp [VR])
 simp only [cJ] at hl;split at hl
 ·rename_i e hd
  cases hl;simp only [ah] at he;split at he<;>try cases he
  all_goals rename_i h1;have hv:=ag hx' h1 hT;simp only [VR] at hv
  ·exact run _ (by simp [Builtin.cap_,run_underlying hd,hv,goInt])
  ·obtain ⟨_,_,hv,_,hk,_⟩:=hv;exact run _ (by simp [Builtin.cap_,run_underlying hd,hv,goInt,hk _ rfl])
  ·obtain ⟨_,_,_,_,hv,_,_,hk,_⟩:=hv;exact run _ (by simp [Builtin.cap_,run_underlying hd,hv,goInt,hk _ rfl])
 ·rename_i n e hd
  cases hl;simp only [ah,evX,ZV,ZB,ZL] at he;obtain ⟨rfl,rfl,rfl⟩:=he;exact run _ (by simp [Builtin.cap_,run_underlying hd,goInt])
 ·cases hl
theorem O3 {own:Nat} {b:Builtin} {ts:List TypeId} {xs:List Operand} {ys:List Opd} {ty:TypeId} {cs:Array Bool} {lo:LOp} {c:Prop} {av:AV} {L':List Blk} (hR:Rel w0 S0 E L w) (hT:TR E T a) (hx:ky xs=some ys)
  (hl:cJ P own b ts ys=some lo) (he:ah T L lo=some (c,av,L')) (hc:c) (hdel:b=.delete->dB P w0 S0 E L' av w (builtin b ⟨ts⟩ ty cs ⟨xs.map a.eval⟩)):dB P w0 S0 E L' av w (builtin b ⟨ts⟩ ty cs ⟨xs.map a.eval⟩):=by
 have hl0:=hl;unfold cJ at hl;split at hl
 ·exact WG hR hT hx hl0 he
 ·exact WI hR hT hx hl0 he
 ·
  rename_i t t' y z
  obtain ⟨u,v,rfl,hu,hv⟩:=PY hx;have key:∀ e s by' zz,P.underlying t=some (.slice e)->((∃ e',P.underlying t'=some (.slice e'))\/P.underlying t'=some .string)->cm P e=some s->Mu P e=some by'->zOf P e=some zz->zz.length=s->lo=.app own s by' zz y z ->
    dB P w0 S0 E L' av w (builtin .append ⟨[t,t']⟩ ty cs ⟨[u,v].map a.eval⟩):=fun e s by' zz h1 h2 h3 h4 h5 h6 hlo=>by
   subst hlo;simp only [ah] at he;split at he<;>try cases he
   rename_i p q h7 h8
   exact (Vt hR h1 h2 h3 h4 h5 h6 (ag hu h7 hT) (ag hv h8 hT) he hc).done
  split at hl
  ·rename_i e e' h1 h2
   split at hl<;>try cases hl
   rename_i s by' zz h3 h4 h5
   split at hl<;>try cases hl
   rename_i h6
   exact key e s by' zz h1 (.inl ⟨_,h2⟩) h3 h4 h5 h6 rfl
  ·rename_i e h1 h2
   split at hl<;>try cases hl
   rename_i s by' zz h3 h4 h5
   split at hl<;>try cases hl
   rename_i h6
   exact key e s by' zz h1 (.inr h2) h3 h4 h5 h6 rfl
  ·rename_i e q h1 h2
   split at hl<;>try cases hl
   rename_i s by' zz h3 h4 h5
   split at hl<;>try cases hl
   rename_i h6
   simp only [ah] at he;split at he<;>try cases he
   rename_i i off m cp s2 q2 k h7 h8
   split at he<;>try cases he
   rename_i l hL
   split at he<;>try cases he
   rename_i hss;subst hss
   exact (Tj hR h1 h2 h3 h4 h5 h6 (ag hu h7 hT) (ag hv h8 hT) hL hc).done
  ·cases hl
 ·
  rename_i t t' y z
  obtain ⟨u,v,rfl,hu,hv⟩:=PY hx;split at hl<;>try cases hl
  rename_i e hd
  rcases hs:cm P e with _|s
  ·simp [hs] at hl
  ·simp only [hs,ZV,ZB] at hl;subst hl;simp only [ah] at he;rcases h8:evX T z with _|q
   ·simp only [h8,Option.bind_none] at he;split at he<;>simp_all
   ·simp only [h8,aaJ] at he;split at he
    ·rename_i c' new n h7 h9
     simp only [ZB,ZL] at he;obtain ⟨rfl,rfl,rfl⟩:=he;exact ((NJ hR hd hs (ag hu h7 hT) (ag hv h8 hT) h9 hc).1 rfl).done
    ·rename_i i off m cap s' c' new n h7 h9
     split at he<;>try cases he
     rename_i l hL
     split at he<;>try cases he
     rename_i hss;subst hss
     exact ((NJ hR hd hs (ag hu h7 hT) (ag hv h8 hT) h9 hc.1).2 _ _ _ _ _ rfl hL hc.2.1 hc.2.2).done
    ·cases he
 ·
  rename_i t y
  obtain ⟨u,rfl,hu⟩:=VZ hx;split at hl<;>try cases hl
  rename_i e hd
  split at hl<;>try cases hl
  rename_i s zz h3 h5
  split at hl<;>try cases hl
  rename_i h6
  simp only [ah] at he;split at he<;>try cases he
  ·rename_i h7
   exact ((LQ hR hd h3 h5 h6 (ag hu h7 hT)).1 rfl).done
  ·rename_i i off m cap s' h7
   split at he<;>try cases he
   rename_i l hL
   split at he<;>try cases he
   rename_i hss;subst hss
   exact ((LQ hR hd h3 h5 h6 (ag hu h7 hT)).2 _ _ _ _ _ rfl hL hc).done
 ·exact hdel rfl
 ·
  rename_i y z
  obtain ⟨u,v,rfl,hu,hv⟩:=PY hx;cases hl;simp only [ah] at he;split at he<;>try cases he
  rename_i k m k' n h7 h8
  have e1:=ag hu h7 hT;have e2:=ag hv h8 hT;simp only [VR] at e1 e2;refine .same hR (v:=.int k (if n > m then n else m)) ?_ (by simp [VR]);simp [builtin,Builtin.max_,Builtin.max2,e1,e2]
 ·rename_i y z
  obtain ⟨u,v,rfl,hu,hv⟩:=PY hx;cases hl;simp only [ah] at he;split at he<;>try cases he
  rename_i k m k' n h7 h8
  have e1:=ag hu h7 hT;have e2:=ag hv h8 hT;simp only [VR] at e1 e2;refine .same hR (v:=.int k (if n<m then n else m)) ?_ (by simp [VR]);simp [builtin,Builtin.min_,Builtin.min2,e1,e2]
 ·cases hl
end
open Go Go.MapKept
section
variable {P:Program} {w0:World} {S0:SB} {E:Env} {L:List Blk} {w:World} {T:Tm} {a:Act}
def gy.desc:gy->TypeDesc->Prop
 | .int,d=>∃ k,d=.int k
 | .str,d=>d=.string
 | .bool,d=>d=.bool
 | .st _,_=>False
def gy.flat:gy->Bool
 | .st _=>false
 | _=>true
theorem Kf {kt:TypeId} {kd:gy} (h:eA P kt=some kd) (hfl:kd.flat=true):∃ d,P.underlying kt=some d/\kd.desc d:=by
 unfold eA at h;split at h<;>try simp only [ZB,reduceCtorEq] at h
 ·rename_i k hk;subst h;exact ⟨_,hk,k,rfl⟩
 ·rename_i hk;subst h;exact ⟨_,hk,rfl⟩
 ·rename_i hk;subst h;exact ⟨_,hk,rfl⟩
 ·split at h
  ·simp only [ZZ] at h;obtain ⟨_,_,rfl⟩:=h;cases hfl
  ·cases h
theorem NE {kd:gy} {d:TypeDesc} {k q:AV} {u v:Value} {b:Bool} (hd:kd.desc d) (hfl:kd.flat=true) (hf:bC kd k=true) (hk:VR E k u) (hq:VR E q v) (h:qM k q=some b):Instr.sameNow d u v=some b:=by
 cases kd<;>try (cases hfl;done)
 all_goals cases k<;>simp only [bC,ZP] at hf<;>cases q<;>simp only [qM,reduceCtorEq] at h<;>simp only [VR] at hk hq<;>subst hk<;>subst hq<;>simp only [gy.desc] at hd
 ·obtain ⟨k,rfl⟩:=hd;split at h<;>simp only [ZB,reduceCtorEq] at h
  rename_i e
  subst e;subst h;simp only [Instr.sameNow,if_true];rfl
 ·subst hd;simp only [ZB] at h;subst h;simp only [Instr.sameNow,ZB]
  rename_i a b
  by_cases e:a=b
  ·subst e;simp [bytes_beq]
  ·simp only [e,decide_false];rcases h':(({ data:={ toList:=a } }:ByteArray) == { data:={ toList:=b } }) with _|_
   ·rfl
   ·have:=(bytes_beq _ _).1 h';simp at this;exact absurd this e
 ·subst hd;simp only [ZB] at h;subst h;simp only [Instr.sameNow,ZB]
  rename_i a b
  cases a<;>cases b<;>rfl
theorem SV {kd:gy} {kt:TypeId} {d:TypeDesc} {k:AV} {u:Value} (hu:P.underlying kt=some d) (hd:kd.desc d) (hf:bC kd k=true) (hk:VR E k u) (e:Bool) (n:Nat):(Instr.checkKey e (n+1) kt u).run P w=.ok () w:=by
 unfold Instr.checkKey;cases kd<;>try (exact hd.elim)
 all_goals cases k<;>simp only [bC,ZP] at hf<;>simp only [VR] at hk<;>subst hk<;>simp only [gy.desc] at hd
 ·obtain ⟨k,rfl⟩:=hd;simp [ZG,run_underlying hu,Result.andThen]
 ·subst hd;simp [ZG,run_underlying hu,Result.andThen]
 ·subst hd;simp [ZG,run_underlying hu,Result.andThen]
theorem Vc {kd:gy} {k q:AV} {u v:Value} (hfl:kd.flat=true) (hf:bC kd k=true) (hk:VR E k u) (hq:VR E q v) (h:qM k q=some true) (n:Nat):Instr.sameBits n v u=true:=by
 cases kd<;>try (cases hfl;done)
 all_goals cases k<;>simp only [bC,ZP] at hf<;>cases q<;>simp only [qM,reduceCtorEq] at h<;>simp only [VR] at hk hq<;>subst hk<;>subst hq
 ·split at h<;>simp only [ZB,reduceCtorEq,decide_eq_true_eq] at h
  rename_i e;subst e;subst h
  simp [Instr.sameBits]
 ·simp only [ZB,decide_eq_true_eq] at h;subst h;simp [Instr.sameBits,bytes_beq]
 ·simp only [ZB,decide_eq_true_eq] at h;subst h;simp [Instr.sameBits]
theorem LC {kd:gy} {d:TypeDesc} {k:AV} {u:Value} (hd:kd.desc d) (hfl:kd.flat=true) (hf:bC kd k=true) (hk:VR E k u):∀ {es:List (AV×AV×Nat)} {rs:List MapEntry} {i:Nat} {r:Option (Nat×AV)},au E es rs->dI k es i=some r ->
  match r with
  | none=>Instr.findNow d u rs i=some none
  | some (j,x)=>∃ j0 e q b,j=i+j0/\Instr.findNow d u rs i=some (some (i+j0,e.val))/\rs[j0]?=some e/\es[j0]?=some (q,x,b)/\VR E x e.val/\VR E q e.key/\qM k q=some true
 | [],rs,i,r,hm,h=>by
   simp only [au] at hm;subst hm;simp only [dI,ZB] at h;subst h;rfl
 | (q,x,b)::l,rs,i,r,hm,h=>by
   simp only [au] at hm;obtain ⟨e,t,rfl,h1,h2,h3,h4⟩:=hm;simp only [dI] at h;split at h
   ·rename_i hq
    simp only [ZB] at h;subst h;have:=NE hd hfl hf hk h1 hq;exact ⟨0,e,q,b,rfl,by simp [Instr.findNow,this],rfl,rfl,h2,h1,hq⟩
   ·rename_i hq
    have h0:=NE hd hfl hf hk h1 hq;have ih:=LC hd hfl hf hk h4 h;cases r with
    | none=>simp only at ih ⊢;simp [Instr.findNow,h0,ih]
    | some p =>
      obtain ⟨j,y⟩:=p;obtain ⟨j0,e',q',b',rfl,g1,g2,g3,g4⟩:=ih;exact ⟨j0+1,e',q',b',by omega,by simp [Instr.findNow,h0,g1];omega,by simpa using g2,by simpa using g3,g4⟩
   ·cases h
theorem Xi {t:TypeId} {k:rT} (h:QD P t=some k) (e:Bool) (n:Nat) (v:Value) (w:World):(Instr.checkKey e (n+1) t v).run P w=.ok () w:=by
 unfold Instr.checkKey;rcases I8 h with ⟨_,q,hu⟩|⟨_,hu⟩|⟨_,hu⟩<;>simp [ZG,run_underlying hu,Result.andThen]
theorem VU {kt:TypeId} {ks:List rT} {fs:Array Field} {cs:Array Value} (hu:P.underlying kt=some (.struct fs)) (hf:Df P 0 fs.toList ks) (hc:ks.length<=cs.size) (e:Bool) (n:Nat) (w:World) :
  (Instr.checkKey e (n+2) kt (.agg cs)).run P w=.ok () w:=by
 have key:∀ (l:List Field) (ks:List rT) (i:Nat),Df P i l ks->i+ks.length<=cs.size->∀ (body:Field->PUnit->Sem (ForInStep PUnit)),(∀ f u,body f u=if f.name ≠ "_" then (do let x <- part f.type cs f.offset;Instr.checkKey e (n+1) f.type x;pure (ForInStep.yield PUnit.unit)) else pure (ForInStep.yield PUnit.unit))->(forIn l PUnit.unit body).run P w=.ok PUnit.unit w:=by
  intro l
  induction l with
  | nil=>intro ks i _ _ body _;simp
  | cons f l ih =>
    intro ks i h hs body hb;cases ks with
    | nil=>simp [Df] at h
    | cons k ks =>
      obtain ⟨h1,h2,h3,h4⟩:=h;simp only [ZN] at hs;obtain ⟨v,hv⟩:∃ v,cs[i]?=some v:=⟨_,aac (by omega)⟩;rw [List.forIn_cons,hb,if_pos h2,h1];simp only [ZG,Qu h3 hv,Xi h3,ZH,Z3];exact ih ks (i+1) h4 (by omega) body hb
 unfold Instr.checkKey;simp only [ZG,run_underlying hu,ZH];rw [<- Array.forIn_toList];have:=key fs.toList ks 0 hf (by omega) _ (fun f u=>rfl)
 first
  | exact this
  | (refine (congrArg (fun r=>Result.andThen r _) this).trans ?_;rfl)
  | (simp only [ZG,this,ZH];rfl)
theorem Kp {kt:TypeId} {ks:List rT} {fs:Array Field} (hu:P.underlying kt=some (.struct fs)) (hs:P.stoodInHeld kt=false) (hf:Df P 0 fs.toList ks) {l:List AV} {u:Value} (hp:mt ks l=true) (hk:VR E (.agg l) u) (w:World):∀ {es:List (AV×AV×Nat)} {rs:List MapEntry} {i:Nat} {r:Option (Nat×AV)},au E es rs->dI (.agg l) es i=some r ->
  match r with
  | none=>(Instr.findAsking kt u rs i).run P w=.ok none w
  | some (j,x)=>∃ j0 e q b,j=i+j0/\(Instr.findAsking kt u rs i).run P w=.ok (some (i+j0,e.val)) w/\rs[j0]?=some e/\es[j0]?=some (q,x,b)/\VR E x e.val/\VR E q e.key/\qM (.agg l) q=some true
 | [],rs,i,r,hm,h=>by
   simp only [au] at hm;subst hm;simp only [dI,ZB] at h;subst h;simp [Instr.findAsking]
 | (q,x,b)::es,rs,i,r,hm,h=>by
   simp only [au] at hm;obtain ⟨e,t,rfl,h1,h2,h3,h4⟩:=hm;simp only [dI] at h;split at h
   ·rename_i hq
    simp only [ZB] at h;subst h;have:=LV hu hs hf hp hk h1 hq w;exact ⟨0,e,q,b,rfl,by simp [Instr.findAsking,this],rfl,rfl,h2,h1,hq⟩
   ·rename_i hq
    have h0:=LV hu hs hf hp hk h1 hq w;have ih:=Kp hu hs hf hp hk w h4 h;cases r with
    | none=>simp only at ih ⊢;simp [Instr.findAsking,h0,ih]
    | some p =>
      obtain ⟨j,y⟩:=p;obtain ⟨j0,e',q',b',rfl,g1,g2,g3,g4⟩:=ih;exact ⟨j0+1,e',q',b',by omega,by simp [Instr.findAsking,h0,g1];omega,by simpa using g2,by simpa using g3,g4⟩
   ·cases h
theorem VW:∀ {l m:List AV} {us vs:List Value} {ks:List rT} (n:Nat),mt ks l=true->VRL E l us->VRL E m vs->qL l m=some true->us.length=vs.length/\((vs.zip us).all fun (x,y)=>Instr.sameBits n x y)=true
 | [],m,us,vs,ks,n,hp,hl,hm,hq=>by
   cases m with
   | cons b m=>simp [qL] at hq
   | nil=>simp only [VRL] at hl hm;subst hl;subst hm;simp
 | a::l,m,us,vs,ks,n,hp,hl,hm,hq=>by
   cases m with
   | nil=>simp [qL] at hq
   | cons b m =>
     cases ks with
     | nil=>simp [mt] at hp
     | cons k ks =>
       simp only [mt,ZE] at hp;simp only [VRL] at hl hm;obtain ⟨u,us',rfl,hu,hus⟩:=hl;obtain ⟨v,vs',rfl,hv,hvs⟩:=hm;simp only [qL] at hq;cases hk:Kh a b with
       | none=>rw [hk] at hq;cases hq
       | some c =>
         rw [hk] at hq;cases c with
         | false=>simp at hq
         | true =>
           obtain ⟨i1,i2⟩:=VW n hp.2 hus hvs hq;refine ⟨by simp [i1],?_⟩;simp only [List.zip_cons_cons,abe,i2,abv];cases a<;>cases b<;>simp only [Kh,reduceCtorEq] at hk<;>simp only [VR] at hu hv<;>subst hu<;>subst hv
           ·simp only [ZB,decide_eq_true_eq] at hk;subst hk;simp [Instr.sameBits]
           ·split at hk<;>simp only [ZB,reduceCtorEq,decide_eq_true_eq] at hk
            rename_i e;subst e;subst hk;simp [Instr.sameBits]
           ·simp only [ZB,decide_eq_true_eq] at hk;subst hk;simp [Instr.sameBits,bytes_beq]
theorem mw {kd:gy} {kt:TypeId} {k:AV} {u:Value} (hkd:eA P kt=some kd) (hf:bC kd k=true) (hk:VR E k u) (e:Bool):(Instr.checkKey e 10000 kt u).run P w=.ok () w:=by
 cases hfl:kd.flat with
 | true =>
   obtain ⟨d,h1,h2⟩:=Kf hkd hfl;exact SV h1 h2 hf hk e 9999
 | false =>
   cases kd<;>simp only [gy.flat,reduceCtorEq] at hfl
   obtain ⟨fs,h1,h2,h3⟩:=I9 hkd;cases k<;>simp only [bC,ZP] at hf
   simp only [VR] at hk;obtain ⟨us,rfl,hus⟩:=hk;exact VU h1 h3 (by rw [Nt hf];simp [hus.length]) e 9998 w
theorem SW {kd:gy} {k q:AV} {u v:Value} (hf:bC kd k=true) (hk:VR E k u) (hq:VR E q v) (h:qM k q=some true):Instr.sameBits 10000 v u=true:=by
 cases hfl:kd.flat with
 | true=>exact Vc hfl hf hk hq h 10000
 | false =>
   cases kd<;>simp only [gy.flat,reduceCtorEq] at hfl
   cases k<;>simp only [bC,ZP] at hf
   cases q<;>simp only [qM,reduceCtorEq] at h
   simp only [VR] at hk hq;obtain ⟨us,rfl,hus⟩:=hk;obtain ⟨vs,rfl,hvs⟩:=hq;obtain ⟨i1,i2⟩:=VW 9999 hf hus hvs h;show Instr.sameBits (9999+1) (.agg ⟨vs⟩) (.agg ⟨us⟩)=true
   simp only [Instr.sameBits,i2,abv];simp [i1]
theorem Dv {kd:gy} {kt:TypeId} {k:AV} {u:Value} (hkd:eA P kt=some kd) (hf:bC kd k=true) (hk:VR E k u) {es:List (AV×AV×Nat)} {rs:List MapEntry} {r:Option (Nat×AV)} (hm:au E es rs) (h:dI k es 0=some r) (w:World) :
  match r with
  | none=>(Instr.findKey kt u rs).run P w=.ok none w
  | some (j,x)=>∃ e q b,(Instr.findKey kt u rs).run P w=.ok (some (j,e.val)) w/\rs[j]?=some e/\es[j]?=some (q,x,b)/\VR E x e.val/\VR E q e.key/\qM k q=some true:=by
 cases hfl:kd.flat with
 | true =>
   obtain ⟨d,h1,h2⟩:=Kf hkd hfl;have hs:=LC h2 hfl hf hk hm h;cases r with
   | none=>exact run_findKey h1 hs
   | some p =>
     obtain ⟨j,x⟩:=p;obtain ⟨j0,e,q,b,rfl,g1,g2,g3,g4⟩:=hs;exact ⟨e,q,b,by have:=run_findKey (P:=P) (w:=w) h1 g1;exact this,by simpa using g2,by simpa using g3,g4⟩
 | false =>
   cases kd<;>simp only [gy.flat,reduceCtorEq] at hfl
   obtain ⟨fs,h1,h2,h3⟩:=I9 hkd;cases k<;>simp only [bC,ZP] at hf
   have hs:=Kp h1 h2 h3 hf hk w hm h;have hfk:(Instr.findKey kt u rs).run P w=(Instr.findAsking kt u rs 0).run P w:=by
    simp only [Instr.findKey,ZG,run_underlying h1,ZH];cases rs with
    | nil=>simp [Instr.findNow,Instr.findAsking]
    | cons e rs=>simp [Instr.findNow,Instr.sameNow]
   rw [hfk];cases r with
   | none=>exact hs
   | some p =>
     obtain ⟨j,x⟩:=p;obtain ⟨j0,e,q,b,rfl,g1,g2,g3,g4⟩:=hs;exact ⟨e,q,b,g1,by simpa using g2,by simpa using g3,g4⟩
theorem QZ {t kt et:TypeId} (hR:Rel w0 S0 E L w) (hd:P.underlying t=some (.map kt et)):cz P w0 S0 E (L++[.map [] 0]) (.lmap L.length) w (Instr.makeMap t none):=by
 have:=hR.push (.map #[] 0) (.map [] 0) ⟨w.heap.size,0,0⟩ rfl rfl ⟨⟨w.heap.size,0,0⟩,#[],by simp,by simp,rfl⟩;refine ⟨_,.map (some w.heap.size),_,?_,this.1,?_,this.2⟩
 ·simp [Instr.makeMap]
 ·simp only [VR];exact ⟨⟨w.heap.size,0,0⟩,by simp,rfl⟩
theorem OV {t:TypeId} {a:AV} (h:TZ P t=some a):∃ v,(∀ w,(zeroValue t).run P w=.ok v w)/\VR E a v:=by
 unfold TZ at h;simp only [abF] at h;obtain ⟨v,⟨i,h1,h2⟩,h3⟩:=h;exact ⟨v,fun w=>by simp [zeroValue,typeInfo,h1,h2],LD h3⟩
theorem rp (hR:Rel w0 S0 E L w) {i:Nat} {es:List (AV×AV×Nat)} {ck:Nat} {u:Value} (hi:L[i]?=some (.map es ck)) (hv:VR E (.lmap i) u) :
  ∃ c rs,E.loc i=some c/\u=.map (some c.blk)/\w.heap[c.blk]?=some (.map rs ck)/\au E es rs.toList:=by
 simp only [VR] at hv;obtain ⟨c,hc,rfl⟩:=hv;obtain ⟨c',rs,h1,h2,h3⟩:=hR.blk i _ hi;rw [hc] at h1;cases h1;exact ⟨c,rs,hc,rfl,h2,h3⟩
theorem Q0 {t kt et:TypeId} {kd:gy} {z k:AV} {u v:Value} (ok:Bool) (hR:Rel w0 S0 E L w) (hd:P.underlying t=some (.map kt et)) (hkd:eA P kt=some kd) (hz:TZ P et=some z) (hu:VR E .nilmap u) (hf:bC kd k=true) (hk:VR E k v) :
  cz P w0 S0 E L (if ok then .tup [z,.bool false] else z) w (Instr.lookup t u v ok):=by
 simp only [VR] at hu;subst hu;obtain ⟨zv,h3,h4⟩:=OV (E:=E) hz;have hc:∀ e,(Instr.checkKey e 10000 kt v).run P w=.ok () w:=fun e=>mw hkd hf hk e
 have hfk:(Instr.findKey kt v []).run P w=.ok none w:=Dv (E:=E) (es:=[]) (r:=none) hkd hf hk (by simp [au]) (by simp [dI]) w;refine .same hR (v:=if ok then .tuple #[zv,.bool false] else zv) ?_ ?_
 ·simp [Instr.lookup,run_underlying hd,hc,hfk,h3]
  try (cases ok<;>rfl)
 ·cases ok
  ·exact h4
  ·simp only [if_true,VR];exact ⟨[zv,.bool false],rfl,by simp [VRL,VR,h4]⟩
theorem Td {t kt et:TypeId} {kd:gy} {z k av:AV} {u v:Value} {i ck:Nat} {es:List (AV×AV×Nat)} {r:Option (Nat×AV)} (ok:Bool) (hR:Rel w0 S0 E L w) (hd:P.underlying t=some (.map kt et)) (hkd:eA P kt=some kd) (hz:TZ P et=some z) (hi:L[i]?=some (.map es ck)) (hu:VR E (.lmap i) u) (hf:bC kd k=true) (hk:VR E k v)
  (hm:dI k es 0=some r) (hav:av=match r with|some (_,x)=>if ok then .tup [x,.bool true] else x|none=>if ok then .tup [z,.bool false] else z) :
  cz P w0 S0 E L av w (Instr.lookup t u v ok):=by
 obtain ⟨c,rs,hc,rfl,hb,hmr⟩:=rp hR hi hu;obtain ⟨zv,h3,h4⟩:=OV (E:=E) hz;have hck:∀ e,(Instr.checkKey e 10000 kt v).run P w=.ok () w:=fun e=>mw hkd hf hk e
 have hg:(getObj c.blk).run P w=.ok (.map rs ck) w:=by simp [getObj,Sem.run,hb]
 have hs:=Dv hkd hf hk hmr hm w;cases r with
 | none =>
   subst hav;have hfk:(Instr.findKey kt v rs.toList).run P w=.ok none w:=hs;refine .same hR (v:=if ok then .tuple #[zv,.bool false] else zv) ?_ ?_
   ·simp [Instr.lookup,run_underlying hd,hg,hck,hfk,h3]
    try (cases ok<;>rfl)
   ·cases ok
    ·exact h4
    ·simp only [if_true,VR];exact ⟨[zv,.bool false],rfl,by simp [VRL,VR,h4]⟩
 | some p =>
   obtain ⟨j,x⟩:=p;subst hav;obtain ⟨e,q,b,hfk,g2,g3,g4,_⟩:=hs;refine .same hR (v:=if ok then .tuple #[e.val,.bool true] else e.val) ?_ ?_
   ·simp [Instr.lookup,run_underlying hd,hg,hck,hfk]
    try (cases ok<;>rfl)
   ·cases ok
    ·exact g4
    ·simp only [if_true,VR];exact ⟨[e.val,.bool true],rfl,by simp [VRL,VR,g4]⟩
theorem au.app {es:List (AV×AV×Nat)} {k x:AV} {e:MapEntry}:∀ {rs:List MapEntry},au E es rs->VR E k e.key->VR E x e.val->au E (es++[(k,x,e.born)]) (rs++[e]):=by
 induction es with
 | nil=>intro rs h hk hx;simp only [au] at h;subst h;exact ⟨e,[],rfl,hk,hx,rfl,rfl⟩
 | cons p es ih =>
   intro rs h hk hx;obtain ⟨q,y,b⟩:=p;obtain ⟨f,t,rfl,g1,g2,g3,g4⟩:=h;exact ⟨f,t++[e],rfl,g1,g2,g3,ih g4 hk hx⟩
theorem au.put {k x:AV} {u v:Value} (hk:VR E k u) (hx:VR E x v):∀ {es:List (AV×AV×Nat)} {rs:List MapEntry} {j:Nat},au E es rs->au E (Oj k x es j) (rs.modify j fun e=>{ e with key:=u,val:=v })
 | [],rs,j,h=>by simp only [au] at h;subst h;simp [Oj,au]
 | (q,y,b)::es,rs,0,h=>by
   obtain ⟨f,t,rfl,g1,g2,g3,g4⟩:=h;exact ⟨{ f with key:=u,val:=v },t,rfl,hk,hx,g3,g4⟩
 | (q,y,b)::es,rs,j+1,h=>by
   obtain ⟨f,t,rfl,g1,g2,g3,g4⟩:=h;exact ⟨f,t.modify j fun e=>{ e with key:=u,val:=v },by simp,g1,g2,g3,au.put hk hx (j:=j) g4⟩
theorem Tc {t kt et:TypeId} {kd:gy} {k x:AV} {u v y:Value} {i ck:Nat} {es:List (AV×AV×Nat)} {r:Option (Nat×AV)} (hR:Rel w0 S0 E L w) (hd:P.underlying t=some (.map kt et)) (hkd:eA P kt=some kd) (hi:L[i]?=some (.map es ck)) (hu:VR E (.lmap i) u) (hf:bC kd k=true) (hk:VR E k v) (hx:VR E x y)
  (hm:dI k es 0=some r):∃ w',(Instr.mapUpdate t u v y).run P w=.ok () w'/\Rel w0 S0 E (L.set i (match r with|some (j,_)=>.map (Oj k x es j) ck|none=>.map (es++[(k,x,ck)]) (ck+1))) w':=by
 obtain ⟨c,rs,hc,rfl,hb,hmr⟩:=rp hR hi hu;have hck:∀ e,(Instr.checkKey e 10000 kt v).run P w=.ok () w:=fun e=>mw hkd hf hk e
 have hg:(getObj c.blk).run P w=.ok (.map rs ck) w:=by simp [getObj,Sem.run,hb]
 have hs:=Dv hkd hf hk hmr hm w;have hlt:c.blk<w.heap.size:=(aaE.1 hb).1;have hso:∀ o,(setObj c.blk o).run P w=.ok () { w with heap:=w.heap.setIfInBounds c.blk o }:=fun o=>by simp [setObj,Sem.run,hb]
 have turn:∀ rs' ck' es',au E es' (rs':Array MapEntry).toList->Rel w0 S0 E (L.set i (.map es' ck')) { w with heap:=w.heap.setIfInBounds c.blk (.map rs' ck') }:=fun rs' ck' es' hm' =>
  hR.turn (w':={ w with heap:=w.heap.setIfInBounds c.blk (.map rs' ck') }) (k':=.map es' ck') hi rfl hc (by simp) (fun b hb=>by simp [abT,Ne.symm hb]) rfl rfl rfl
   ⟨c,rs',hc,by simp [hlt],hm'⟩ (fun _ _ e=>by cases e)
 cases r with
 | none =>
   have hfk:(Instr.findKey kt v rs.toList).run P w=.ok none w:=hs;refine ⟨_,?_,turn (rs.push { key:=v,val:=y,born:=ck }) (ck+1) _ (by simpa using au.app (e:={ key:=v,val:=y,born:=ck }) hmr hk hx)⟩;simp [Instr.mapUpdate,run_underlying hd,hg,hck,hfk,hso]
 | some p =>
   obtain ⟨j,z⟩:=p;obtain ⟨e,q,b,hfk,g2,g3,g4,g5,g6⟩:=hs;have hst:(Instr.keyThatStays e.key v).run P w=.ok v w:=by
    simp [Instr.keyThatStays,SW hf hk g5 g6]
   have hget:rs[j]?=some e:=by simpa using g2
   refine ⟨_,?_,turn (rs.modify j fun e=>{ e with key:=v,val:=y }) ck _ (by simpa using au.put hk hx (j:=j) hmr)⟩;simp [Instr.mapUpdate,run_underlying hd,hg,hck,hfk,hget,hst,hso]
end
open Go Go.MapKept
section
variable {P:Program} {w0:World} {S0:SB} {E:Env} {L:List Blk} {w:World} {T:Tm} {a:Act}
theorem au.filt {p:Nat->Bool}:∀ {es:List (AV×AV×Nat)} {rs:List MapEntry},au E es rs->au E (es.filter fun e=>p e.2.2) (rs.filter fun e=>p e.born)
 | [],rs,h=>by simp only [au] at h;subst h;rfl
 | (k,x,b)::es,rs,h=>by
   obtain ⟨f,t,rfl,g1,g2,g3,g4⟩:=h;have ih:=au.filt (p:=p) g4;subst g3;simp only [ab9];split
   ·exact ⟨f,_,rfl,g1,g2,rfl,ih⟩
   ·exact ih
theorem au.all {p:Nat->Bool}:∀ {es:List (AV×AV×Nat)} {rs:List MapEntry},au E es rs->(rs.all fun e=>p e.born)=es.all fun e=>p e.2.2
 | [],rs,h=>by simp only [au] at h;subst h;rfl
 | (k,x,b)::es,rs,h=>by
   obtain ⟨f,t,rfl,g1,g2,g3,g4⟩:=h;subst g3;simp only [abe,au.all (p:=p) g4]
theorem au.nil_iff {es:List (AV×AV×Nat)} {rs:List MapEntry} (h:au E es rs):rs.isEmpty=es.isEmpty:=by
 cases es with
 | nil=>simp only [au] at h;subst h;rfl
 | cons p es=>obtain ⟨k,x,b⟩:=p;obtain ⟨f,t,rfl,_⟩:=h;rfl
theorem au.len:∀ {es:List (AV×AV×Nat)} {rs:List MapEntry},au E es rs->rs.length=es.length
 | [],rs,h=>by simp only [au] at h;subst h;rfl
 | (k,x,b)::es,rs,h=>by obtain ⟨f,t,rfl,_,_,_,g4⟩:=h;simp [au.len g4]
theorem OA {t kt et:TypeId} {v:Value} (hR:Rel w0 S0 E L w) (hd:P.underlying t=some (.map kt et)) (hv:VR E .nilmap v) :
  cz P w0 S0 E (L++[.miter none 0 [] 0]) (.ptr L.length 0) w (Instr.range t v):=by
 simp only [VR] at hv;subst hv;have:=hR.push (.mapIter none 0 #[] 0) (.miter none 0 [] 0) ⟨w.heap.size,0,0⟩ rfl rfl ⟨⟨w.heap.size,0,0⟩,none,by simp,by simp,rfl,rfl⟩;refine ⟨_,.pointer (some ⟨w.heap.size,0,none⟩),_,?_,this.1,?_,this.2⟩
 ·simp [Instr.range,run_underlying hd]
 ·simp only [VR];exact ⟨⟨w.heap.size,0,0⟩,by simp,rfl⟩
theorem PF {t kt et:TypeId} {v:Value} {i ck:Nat} {es:List (AV×AV×Nat)} (hR:Rel w0 S0 E L w) (hd:P.underlying t=some (.map kt et)) (hi:L[i]?=some (.map es ck)) (hv:VR E (.lmap i) v) :
  cz P w0 S0 E (L++[.miter (some i) ck [] ck]) (.ptr L.length 0) w (Instr.range t v):=by
 obtain ⟨c,rs,hc,rfl,hb,hmr⟩:=rp hR hi hv;have hlt:i<L.length:=(Zz.1 hi).1;have:=hR.push (.mapIter (some c.blk) ck #[] ck) (.miter (some i) ck [] ck) ⟨w.heap.size,0,0⟩ rfl rfl ⟨⟨w.heap.size,0,0⟩,some c.blk,by simp,by simp,rfl,c,by simp only;rw [if_neg (by omega)];exact hc,rfl⟩;refine ⟨_,.pointer (some ⟨w.heap.size,0,none⟩),_,?_,this.1,?_,this.2⟩
 ·have hg:(getObj c.blk).run P w=.ok (.map rs ck) w:=by simp [getObj,Sem.run,hb]
  simp [Instr.range,run_underlying hd,hg]
 ·simp only [VR];exact ⟨⟨w.heap.size,0,0⟩,by simp,rfl⟩
theorem QY {t:TypeId} {v:Value} {i j ck since last:Nat} {seen:List Nat} {es:List (AV×AV×Nat)} {r:Option (AV×AV×Nat)} (hR:Rel w0 S0 E L w) (hi:L[i]?=some (.miter (some j) since seen last)) (hj:L[j]?=some (.map es ck)) (hv:VR E (.ptr i 0) v)
  (hs:U2 es since seen last=some r) :
  cz P w0 S0 E (Nw L i j since seen ck r) (Ge r) w (Instr.next v false t):=by
 simp only [VR] at hv;obtain ⟨c,hc,rfl⟩:=hv;obtain ⟨c',q,h1,h2,h3,d,h4,rfl⟩:=hR.blk i _ hi;rw [hc] at h1;cases h1;obtain ⟨d',rs,g1,g2,g3⟩:=hR.blk j _ hj;rw [h4] at g1;cases g1;have hlt:c.blk<w.heap.size:=(aaE.1 h2).1;have hg:(getObj c.blk).run P w=.ok (.mapIter (some d.blk) since ⟨seen⟩ last) w:=by simp [getObj,Sem.run,h2]
 have hg2:(getObj d.blk).run P w=.ok (.map rs ck) w:=by simp [getObj,Sem.run,g2]
 have hso:∀ o,(setObj c.blk o).run P w=.ok () { w with heap:=w.heap.setIfInBounds c.blk o }:=fun o=>by simp [setObj,Sem.run,h2]
 rw [h3];unfold U2 at hs;split at hs
 ·cases hs
 rename_i hguard
 have hguard':(!(⟨seen⟩:Array Nat).isEmpty && !rs.isEmpty && rs.all fun e=>decide (e.born ≥ last))=false:=by
  rw [aa0] at hguard;rw [<- hguard];have e1:(⟨seen⟩:Array Nat).isEmpty=seen.isEmpty:=by cases seen<;>rfl
  have e2:rs.isEmpty=es.isEmpty:=by rw [<- g3.nil_iff];simp
  have e3:(rs.all fun e=>decide (e.born ≥ last))=es.all fun e=>decide (last<=e.2.2):=by
   rw [<- au.all (p:=fun b=>decide (last<=b)) g3];simp
  rw [e1,e2,e3]
 have hleft:=au.filt (p:=fun b => !seen.contains b) g3;have hold:=au.filt (p:=fun b=>decide (b<since)) hleft;have hnew:=au.filt (p:=fun b=>decide (since<=b)) hleft;have fl:∀ p:MapEntry->Bool,(rs.filter fun e => !(⟨seen⟩:Array Nat).contains e.born).filter p=⟨(rs.toList.filter fun e => !seen.contains e.born).filter p⟩:=fun p=>by
  apply Array.toList_inj.1;simp
 split at hs
 ·rename_i ho hn
  simp only [ZB] at hs;subst hs;rw [ho] at hold;rw [hn] at hnew;simp only [au] at hold hnew;refine .same hR (v:=.tuple #[.bool false]) ?_ (by simp [Ge,VR,VRL]);have hold':((rs.filter fun e => !(⟨seen⟩:Array Nat).contains e.born).filter fun e=>decide (e.born<since))=#[]:=by rw [fl,hold]
  have hnew':((rs.filter fun e => !(⟨seen⟩:Array Nat).contains e.born).filter fun e=>decide (e.born ≥ since))=#[]:=by rw [fl];exact congrArg Array.mk hnew
  simp only [Instr.next,ZG,hg,hg2,ZH,hguard',ZP,if_false,hold',hnew'];simp [Question.forced]
 ·rename_i e ho hn
  simp only [ZB] at hs;subst hs;rw [ho] at hold;rw [hn] at hnew;obtain ⟨k,x,b⟩:=e;simp only [au] at hold hnew;obtain ⟨f,s,hf,k1,k2,k3,rfl⟩:=hold;subst k3;have hold':((rs.filter fun e => !(⟨seen⟩:Array Nat).contains e.born).filter fun e=>decide (e.born<since))=#[f]:=by rw [fl,hf]
  have hnew':((rs.filter fun e => !(⟨seen⟩:Array Nat).contains e.born).filter fun e=>decide (e.born ≥ since))=#[]:=by rw [fl];exact congrArg Array.mk hnew
  have turn:=hR.turn (w':={ w with heap:=w.heap.setIfInBounds c.blk (.mapIter (some d.blk) since ((⟨seen⟩:Array Nat).push f.born) ck) }) (k':=.miter (some j) since (seen++[f.born]) ck) hi rfl hc (by simp) (fun b hb=>by simp [abT,Ne.symm hb]) rfl rfl rfl
   ⟨c,some d.blk,hc,by simp [hlt],h3,d,h4,rfl⟩ (fun _ _ e=>by cases e)
  refine ⟨E,.tuple #[.bool true,f.key,f.val],_,?_,.refl E,?_,turn⟩
  ·simp only [Instr.next,ZG,hg,hg2,ZH,hguard',ZP,if_false,hold',hnew'];simp [Question.forced,hso]
  ·simp only [Ge,VR,VRL];exact ⟨[.bool true,f.key,f.val],rfl,.bool true,[f.key,f.val],rfl,rfl,f.key,[f.val],rfl,k1,f.val,[],rfl,k2,rfl⟩
 ·cases hs
theorem PG {t:TypeId} {v:Value} {i since last:Nat} {seen:List Nat} (hR:Rel w0 S0 E L w) (hi:L[i]?=some (.miter none since seen last)) (hv:VR E (.ptr i 0) v) :
  cz P w0 S0 E L (.tup [.bool false]) w (Instr.next v false t):=by
 simp only [VR] at hv;obtain ⟨c,hc,rfl⟩:=hv;obtain ⟨c',q,h1,h2,h3,h4⟩:=hR.blk i _ hi;rw [hc] at h1;cases h1;simp only [MIt] at h4;subst h4;have hg:(getObj c.blk).run P w=.ok (.mapIter none since ⟨seen⟩ last) w:=by simp [getObj,Sem.run,h2]
 rw [h3];exact .same hR (v:=.tuple #[.bool false]) (by simp [Instr.next,hg]) (by simp [VR,VRL])
theorem au.fnd {b:Nat}:∀ {es:List (AV×AV×Nat)} {rs:List MapEntry} {e:AV×AV×Nat},au E es rs->es.find? (fun e=>Nat.beq e.2.2 b)=some e->∃ f,rs.find? (fun e=>e.born == b)=some f/\VR E e.1 f.key/\VR E e.2.1 f.val
 | [],rs,e,h,he=>by simp at he
 | (k,x,c)::es,rs,e,h,he=>by
   obtain ⟨f,t,rfl,g1,g2,g3,g4⟩:=h;subst g3;simp only [aaK] at he ⊢;have e1:(f.born == b)=Nat.beq f.born b:=by
    cases hh:Nat.beq f.born b with
    | true=>rw [acs hh];simp
    | false =>
      have:f.born≠b:=fun e=>by rw [e,Nat.beq_refl] at hh;cases hh
      simpa using this
   rw [e1];split at he
   ·rename_i hb;simp only [ZB] at he;subst he
    exact ⟨f,rfl,g1,g2⟩
   ·rename_i hb;exact au.fnd g4 he
theorem PH {v:Value} {i j ck since stepped:Nat} {seen:List Nat} {es:List (AV×AV×Nat)} {e:AV×AV×Nat} (hR:Rel w0 S0 E L w) (hi:L[i]?=some (.miter (some j) since seen stepped)) (hj:L[j]?=some (.map es ck)) (hv:VR E (.ptr i 0) v)
  (hs:mat es ck seen stepped=some e):cz P w0 S0 E L (.tup [e.1,e.2.1]) w (Instr.entry v):=by
 simp only [VR] at hv;obtain ⟨c,hc,rfl⟩:=hv;obtain ⟨c',q,h1,h2,h3,d,h4,rfl⟩:=hR.blk i _ hi;rw [hc] at h1;cases h1;obtain ⟨d',rs,g1,g2,g3⟩:=hR.blk j _ hj;rw [h4] at g1;cases g1;have hg:(getObj c.blk).run P w=.ok (.mapIter (some d.blk) since ⟨seen⟩ stepped) w:=by simp [getObj,Sem.run,h2]
 have hg2:(getObj d.blk).run P w=.ok (.map rs ck) w:=by simp [getObj,Sem.run,g2]
 unfold mat at hs;split at hs
 ·rename_i b hb
  split at hs
  ·rename_i hck
   obtain ⟨f,k1,k2,k3⟩:=au.fnd g3 hs;have hback:(⟨seen⟩:Array Nat).back?=some b:=by rw [List.getLast?_eq_getElem?] at hb;simpa [Array.back?] using hb
   have hf:rs.find? (fun e=>e.born == b)=some f:=by rw [<- k1];simp
   rw [h3];refine .same hR (v:=.tuple #[f.key,f.val]) ?_ (by simp only [VR,VRL];exact ⟨[f.key,f.val],rfl,f.key,[f.val],rfl,k2,f.val,[],rfl,k3,rfl⟩);simp [Instr.entry,hg,hg2,hback,hck,hf]
  ·cases hs
 ·cases hs
theorem au.del:∀ {es:List (AV×AV×Nat)} {rs:List MapEntry} {j:Nat},au E es rs->au E (es.eraseIdx j) (rs.eraseIdx j)
 | [],rs,j,h=>by simp only [au] at h;subst h;simp [au]
 | (k,x,b)::es,rs,0,h=>by obtain ⟨f,t,rfl,_,_,_,g4⟩:=h;simpa using g4
 | (k,x,b)::es,rs,j+1,h=>by
   obtain ⟨f,t,rfl,g1,g2,g3,g4⟩:=h;exact ⟨f,t.eraseIdx j,by simp,g1,g2,g3,au.del g4⟩
theorem Te {t kt et t' ty:TypeId} {kd:gy} {k:AV} {u v:Value} {i ck:Nat} {cs:Array Bool} {es:List (AV×AV×Nat)} {r:Option (Nat×AV)} (hR:Rel w0 S0 E L w) (hd:P.underlying t=some (.map kt et)) (hkd:eA P kt=some kd) (hi:L[i]?=some (.map es ck)) (hu:VR E (.lmap i) u) (hf:bC kd k=true) (hk:VR E k v)
  (hm:dI k es 0=some r):∃ w',(builtin .delete ⟨[t,t']⟩ ty cs ⟨[u,v]⟩).run P w=.ok (.value (.tuple #[])) w'/\Rel w0 S0 E (L.set i (match r with|some (j,_)=>.map (es.eraseIdx j) ck|none=>.map es ck)) w':=by
 obtain ⟨c,rs,hc,rfl,hb,hmr⟩:=rp hR hi hu;have hck:∀ e,(Instr.checkKey e 10000 kt v).run P w=.ok () w:=fun e=>mw hkd hf hk e
 have hg:(getObj c.blk).run P w=.ok (.map rs ck) w:=by simp [getObj,Sem.run,hb]
 have hs:=Dv hkd hf hk hmr hm w;have hlt:c.blk<w.heap.size:=(aaE.1 hb).1;have hso:∀ o,(setObj c.blk o).run P w=.ok () { w with heap:=w.heap.setIfInBounds c.blk o }:=fun o=>by simp [setObj,Sem.run,hb]
 have turn:∀ rs' ck' es',au E es' (rs':Array MapEntry).toList->Rel w0 S0 E (L.set i (.map es' ck')) { w with heap:=w.heap.setIfInBounds c.blk (.map rs' ck') }:=fun rs' ck' es' hm' =>
  hR.turn (w':={ w with heap:=w.heap.setIfInBounds c.blk (.map rs' ck') }) (k':=.map es' ck') hi rfl hc (by simp) (fun b hb=>by simp [abT,Ne.symm hb]) rfl rfl rfl
   ⟨c,rs',hc,by simp [hlt],hm'⟩ (fun _ _ e=>by cases e)
 cases r with
 | none =>
   have hfk:(Instr.findKey kt v rs.toList).run P w=.ok none w:=hs;refine ⟨_,?_,turn rs ck es hmr⟩;simp [builtin,Builtin.delete_,run_underlying hd,hg,hck,hfk,hso]
 | some p =>
   obtain ⟨j,z⟩:=p;obtain ⟨e,q,b,hfk,g2,g3,g4,g5,g6⟩:=hs;refine ⟨_,?_,turn (rs.eraseIdxIfInBounds j) ck (es.eraseIdx j) (by simpa using au.del hmr)⟩;simp [builtin,Builtin.delete_,run_underlying hd,hg,hck,hfk,hso]
theorem Q1 {t kt et t' ty:TypeId} {kd:gy} {k:AV} {u v:Value} {cs:Array Bool} (hR:Rel w0 S0 E L w) (hd:P.underlying t=some (.map kt et)) (hkd:eA P kt=some kd) (hu:VR E .nilmap u) (hf:bC kd k=true) (hk:VR E k v) :
  (builtin .delete ⟨[t,t']⟩ ty cs ⟨[u,v]⟩).run P w=.ok (.value (.tuple #[])) w:=by
 simp only [VR] at hu;subst hu;have hck:∀ e,(Instr.checkKey e 10000 kt v).run P w=.ok () w:=fun e=>mw hkd hf hk e
 simp [builtin,Builtin.delete_,run_underlying hd,hck]
theorem WH {own:Nat} {ts:List TypeId} {xs:List Operand} {ys:List Opd} {ty:TypeId} {cs:Array Bool} {lo:LOp} {c:Prop} {av:AV} {L':List Blk} (hR:Rel w0 S0 E L w) (hT:TR E T a) (hx:ky xs=some ys)
  (hl:cJ P own .delete ts ys=some lo) (he:ah T L lo=some (c,av,L')):dB P w0 S0 E L' av w (builtin .delete ⟨ts⟩ ty cs ⟨xs.map a.eval⟩):=by
 unfold cJ at hl;split at hl<;>try (rename_i h0;cases h0)
 ·rename_i t t' m k _
  obtain ⟨x,y,rfl,hu,hv⟩:=PY hx;split at hl<;>try cases hl
  rename_i kt et hd
  rcases h4:eA P kt with _|kd<;>simp [h4] at hl
  subst hl;simp only [ah] at he;split at he<;>try cases he
  ·rename_i kv h5 h6
   split at he<;>cases he
   rename_i hf
   exact .same hR (v:=.tuple #[]) (Q1 hR hd h4 (ag hu h5 hT) hf (ag hv h6 hT)) (by simp [VR,VRL])
  ·rename_i i kv h5 h6
   split at he<;>try cases he
   rename_i es ck h8
   split at he<;>try cases he
   rename_i hf
   have go:=fun r hm=>Te (P:=P) (t':=t') (ty:=ty) (cs:=cs) (r:=r) hR hd h4 h8 (ag hu h5 hT) hf (ag hv h6 hT) hm
   split at he<;>cases he
   ·rename_i j y' hm
    obtain ⟨w',g1,g2⟩:=go _ hm;exact ⟨E,.tuple #[],w',.inl g1,.refl E,by simp [VR,VRL],g2⟩
   ·rename_i hm
    obtain ⟨w',g1,g2⟩:=go _ hm;exact ⟨E,.tuple #[],w',.inl g1,.refl E,by simp [VR,VRL],g2⟩
 ·cases hl
end
section
variable {P:Program} {w0:World} {S0:SB} {E:Env} {L:List Blk} {w:World} {T:Tm} {a:Act}
def LOp.isCall:LOp->Bool
 | .call _ _ | .callv _ _=>true
 | _=>false
set_option maxHeartbeats 1000000 in
theorem OH {own:Nat} {o:Oper} {lo:LOp} {c:Prop} {av:AV} {L':List Blk} (hR:Rel w0 S0 E L w) (hT:TR E T a) (hl:fg P own o.op=some lo) (hnc:lo.isCall=false) (he:ah T L lo=some (c,av,L')) (hc:c) :
  dB P w0 S0 E L' av w (execOp a.eval o):=by
 obtain ⟨dst,op,ty,pos,after,guard⟩:=o;cases op<;>simp only [fg] at hl<;>try cases hl
 case move x =>
  show dB P w0 S0 E L' av w (pure (.value (a.eval x)))
  rcases h1:bB x with _|y<;>simp [h1] at hl
  subst hl;simp only [ah] at he;rcases h2:evX T y with _|u<;>simp only [h2,Z6,ZV,reduceCtorEq,ZB,ZL] at he
  obtain ⟨rfl,rfl,rfl⟩:=he;exact .same hR rfl (ag h1 h2 hT)
 case assign x =>
  show dB P w0 S0 E L' av w (pure (.value (a.eval x)))
  rcases h1:bB x with _|y<;>simp [h1] at hl
  subst hl;simp only [ah] at he;rcases h2:evX T y with _|u<;>simp only [h2,Z6,ZV,reduceCtorEq,ZB,ZL] at he
  obtain ⟨rfl,rfl,rfl⟩:=he;exact .same hR rfl (ag h1 h2 hT)
 case pick x y z =>
  show dB P w0 S0 E L' av w (do pure (.value (if <- asBool (a.eval x) then a.eval y else a.eval z)))
  split at hl<;>try cases hl
  rename_i x' y' z' h1 h2 h3
  simp only [ah] at he;split at he<;>try cases he
  all_goals
   rename_i h4
   have hx:=ag h1 h4 hT;simp only [VR] at hx
  ·rcases h5:evX T y' with _|u<;>simp only [h5,Z6,ZV,reduceCtorEq,ZB,ZL] at he
   obtain ⟨rfl,rfl,rfl⟩:=he;exact .same hR (by simp [hx,asBool]) (ag h2 h5 hT)
  ·rcases h5:evX T z' with _|u<;>simp only [h5,Z6,ZV,reduceCtorEq,ZB,ZL] at he
   obtain ⟨rfl,rfl,rfl⟩:=he;exact .same hR (by simp [hx,asBool]) (ag h3 h5 hT)
 case alloc t =>
  show dB P w0 S0 E L' av w (do pure (.value (<- Instr.alloc t true (.tuple #[]))))
  rcases h1:zOf P t with _|z<;>simp [h1] at hl
  subst hl;simp only [ah,ZB,ZL] at he;obtain ⟨rfl,rfl,rfl⟩:=he;exact (Q4 hR h1).done
 case box t x =>
  show dB P w0 S0 E L' av w (do pure (.value (<- Instr.box t (a.eval x))))
  rcases h1:bB x with _|y<;>simp [h1] at hl
  subst hl;simp only [ah] at he;rcases h2:evX T y with _|u
  ·simp [h2] at he
  ·simp only [h2,aaJ] at he;rcases h3:u.cells? with _|l<;>simp only [h3,reduceCtorEq,ZB,ZL] at he
   obtain ⟨rfl,rfl,rfl⟩:=he;exact (Kk hR (lZ h3 (ag h1 h2 hT))).done
 case build t ps =>
  show dB P w0 S0 E L' av w (do pure (.value (<- Instr.build t (ps.map fun (i,x)=>(i,a.eval x)))))
  have hps:(ps.map fun (i,x)=>(i,a.eval x))=⟨ps.toList.map fun (i,x)=>(i,a.eval x)⟩:=by apply Array.ext';simp
  rw [hps];split at hl<;>try cases hl
  rename_i d z hd hz
  split at hl<;>try cases hl
  ·rename_i fs
   split at hl<;>try cases hl
   rename_i hk
   rcases hm:eg P (.struct fs) ps.toList with _|m<;>simp only [hm,Z6,ZV,reduceCtorEq,ZB] at hl
   subst hl;simp only [ah] at he;rcases hf:gh T z m with _|l<;>simp only [hf,Z6,ZV,reduceCtorEq,ZB,ZL] at he
   obtain ⟨rfl,rfl,rfl⟩:=he;exact (PI hT hR hd hz hk hm hf).done
  ·rename_i n e
   split at hl<;>try cases hl
   rename_i hs
   rcases hm:eg P (.array n e) ps.toList with _|m<;>simp only [hm,Z6,ZV,reduceCtorEq,ZB] at hl
   subst hl;simp only [ah] at he;rcases hf:gh T z m with _|l<;>simp only [hf,Z6,ZV,reduceCtorEq,ZB,ZL] at he
   obtain ⟨rfl,rfl,rfl⟩:=he;exact (PJ hT hR hd hz hm hs hf).done
 case buildSlice t n ps =>
  show dB P w0 S0 E L' av w (do pure (.value (<- Instr.buildSlice t n (ps.map fun (i,x)=>(i,a.eval x)))))
  have hps:(ps.map fun (i,x)=>(i,a.eval x))=⟨ps.toList.map fun (i,x)=>(i,a.eval x)⟩:=by apply Array.ext';simp
  rw [hps];split at hl<;>try cases hl
  rename_i e hd
  split at hl<;>try cases hl
  rename_i s z m hs hz hm
  split at hl<;>try cases hl
  rename_i hk
  simp only [ah] at he;rcases hf:gh T (dL z n) m with _|l<;>simp only [hf,reduceCtorEq] at he
  have:=PK (own:=own == 2) hT hR hd hs hz hk.1 hk.2 hm hf;split at he<;>simp only [ZB,ZL] at he<;>obtain ⟨rfl,rfl,rfl⟩:=he
  ·rename_i ho
   rw [if_pos ho] at this;exact this.done
  ·rename_i ho
   rw [if_neg ho] at this;exact this.done
 case load t x =>
  split at hl<;>try cases hl
  rename_i g s y h1 h2 h3
  exact Un hR hT h1 h2 h3 he hc
 case store t x y =>
  split at hl<;>try cases hl
  rename_i s p q h1 h2 h3
  exact Sj hR hT h1 h2 h3 he hc
 case nilCheck x =>
  rcases h1:bB x with _|y<;>simp [h1] at hl
  subst hl;simp only [ah] at he;split at he<;>try cases he
  all_goals
   rename_i h2
   have hx:=fH hR h1 h2 hT
  ·have hx':=hx;obtain ⟨p,hp⟩:=hx'.ptr_shape;exact .same hR (by simp [execOp,hp]) hx
  ·have hx':=hx;obtain ⟨p,hp⟩:=hx'.iptr_shape;exact .same hR (by simp [execOp,hp]) hx
  ·have hx':=hx;obtain ⟨p,hp⟩:=hx'.iface_shape;exact .same hR (by simp [execOp,hp]) hx
  ·have hx':=hx;obtain ⟨p,hp⟩:=hx'.func_shape;exact .same hR (by simp [execOp,hp]) hx
 case binOp op t x y u=>exact WJ (u:=u) hR hT hl he hc
 case unOp op t x =>
  show dB P w0 S0 E L' av w (do pure (.value (<- Op.unary op (a.eval x))))
  rcases h1:bB x with _|y<;>simp [h1] at hl
  subst hl;simp only [ah] at he;split at he<;>try cases he
  rename_i u h2
  rcases h3:un op u with _|r<;>simp only [h3,Z6,ZV,reduceCtorEq,ZB,ZL] at he
  obtain ⟨rfl,rfl,rfl⟩:=he;exact (Xa hR (ag h1 h2 hT) h3).done
 case convert s d x =>
  rcases h1:bB x with _|y
  ·simp [h1] at hl
  ·simp only [h1,aaJ] at hl;exact Uo hR hT h1 hl he hc
 case makeInterface t x =>
  show dB P w0 S0 E L' av w (do pure (.value (<- Instr.makeInterface t (a.eval x))))
  split at hl<;>try cases hl
  rename_i d hni hd
  rcases h1:bB x with _|y<;>simp only [h1,Z6,ZV,reduceCtorEq,ZB] at hl
  subst hl;simp only [ah] at he;rcases h2:evX T y with _|u<;>simp only [h2,Z6,ZV,reduceCtorEq,ZB,ZL] at he
  obtain ⟨rfl,rfl,rfl⟩:=he;refine .same hR (v:=.iface t (a.eval x)) ?_ ⟨_,rfl,ag h1 h2 hT⟩;simp only [Instr.makeInterface,ZG,run_underlying hd,ZH];cases d<;>first|rfl|exact absurd hd (hni _)
 case makeFunc fn first caps =>
  show dB P w0 S0 E L' av w (do pure (.value (<- Instr.makeFunc fn (first.map a.eval) (caps.map a.eval))))
  split at hl<;>try cases hl
  rename_i f
  split at hl<;>try cases hl
  rename_i hfirst
  rcases h1:ky caps.toList with _|ys<;>simp only [h1,Z6,ZV,reduceCtorEq,ZB] at hl
  subst hl;simp only [ah] at he;rcases h2:eW T ys with _|l<;>simp only [h2,Z6,ZV,reduceCtorEq,ZB,ZL] at he
  obtain ⟨rfl,rfl,rfl⟩:=he;have hf:first=#[]:=by simpa using hfirst
  subst hf;refine .same hR (v:=.func (.func f) #[] (caps.map a.eval)) (by simp [Instr.makeFunc]) ⟨caps.toList.map a.eval,?_,mB h1 h2 hT⟩
  congr 1
  apply Array.ext';simp
 case makeSlice t l c' =>
  show dB P w0 S0 E L' av w (do pure (.value (<- Instr.makeSlice t (a.eval l) (a.eval c'))))
  split at hl<;>try cases hl
  rename_i e hd
  split at hl<;>try cases hl
  rename_i s b z l' c'' hs hb hz h1 h2
  split at hl<;>try cases hl
  rename_i hk
  simp only [ah] at he;split at he<;>try cases he
  rename_i k1 n k2 m h3 h4
  have e1:=ag h1 h3 hT;have e2:=ag h2 h4 hT;simp only [VR] at e1 e2;rw [e1,e2];exact (OB hR hd hs hb hz hk.1 hc.1 hc.2.1 hc.2.2.1 hc.2.2.2).done
 case slice t x lo' hi mx =>
  split at hl<;>try cases hl
  ·rename_i x' lo'' hi' hd h1 h2 h3 h4
   have hmx:mx=none:=by
    cases mx with
    | none=>rfl
    | some m=>simp [nA] at h4
   subst hmx;show dB P w0 S0 E L' av w (do pure (.value (<- Instr.sliceAt t (a.eval x) (lo'.map a.eval) (hi.map a.eval) none)))
   simp only [ah] at he;split at he<;>try cases he
   rename_i s r1 r2 h5 h6 h7
   exact (Vo hR hd (ag h1 h5 hT) (dq hT h2 h6) (dq hT h3 h7) hc.1 hc.2.1 hc.2.2).done
  ·rename_i e x' lo'' hi' mx' hd h1 h2 h3 h4
   rcases hs:cm P e with _|s<;>simp only [hs,Z6,ZV,reduceCtorEq,ZB] at hl
   subst hl;exact WE hR hT hd hs h1 h2 h3 h4 he hc
  ·rename_i n e x' lo'' hi' hd h1 h2 h3 h4
   rcases hs:cm P e with _|s<;>simp only [hs,Z6,ZV,reduceCtorEq,ZB] at hl
   subst hl;have hmx:mx=none:=by
    cases mx with
    | none=>rfl
    | some m=>simp [nA] at h4
   subst hmx;exact WF hR hT hd hs h1 h2 h3 he hc
 case fieldAddr t x f =>
  split at hl<;>try cases hl
  rename_i fs x' hd h1
  split at hl<;>try cases hl
  rename_i fd hf
  split at hl<;>try cases hl
  rename_i hz
  exact Sm hR hT hd hf hz h1 he
 case field t x f =>
  split at hl<;>try cases hl
  rename_i fs x' hd h1
  split at hl<;>try cases hl
  rename_i fd hf
  split at hl<;>try cases hl
  rename_i g s hg hs
  exact Sl hR hT hd hf hg hs h1 he hc
 case indexAddr t x i =>
  split at hl<;>try cases hl
  ·rename_i e x' i' hd h1 h2
   rcases hs:cm P e with _|s<;>simp only [hs,Z6,ZV,reduceCtorEq,ZB] at hl
   subst hl;exact Sk hR hT hd hs h1 h2 he hc
  ·rename_i n e x' i' hd h1 h2
   rcases hs:cm P e with _|s<;>simp only [hs,Z6,ZV,reduceCtorEq,ZB] at hl
   subst hl;exact Ql hR hT hd hs h1 h2 he hc
 case index t x i =>
  show dB P w0 S0 E L' av w (do pure (.value (<- Instr.index t (a.eval x) (a.eval i))))
  split at hl<;>try cases hl
  rename_i x' i' hd h1 h2
  simp only [ah] at he;split at he<;>try cases he
  rename_i s k n h3 h4
  have e2:=ag h2 h4 hT;simp only [VR] at e2;rw [e2];exact (Tf hR hd (ag h1 h3 hT) hc.1 hc.2).done
 case extract x i =>
  show dB P w0 S0 E L' av w (do pure (.value (<- Instr.extract (a.eval x) i)))
  rcases h1:bB x with _|y<;>simp [h1] at hl
  subst hl;simp only [ah] at he;split at he<;>try cases he
  rename_i l h2
  rcases h3:l[i]? with _|u<;>simp only [h3,Z6,ZV,reduceCtorEq,ZB,ZL] at he
  obtain ⟨rfl,rfl,rfl⟩:=he;exact (OC hR (ag h1 h2 hT) h3).done
 case makeMap t r =>
  show dB P w0 S0 E L' av w (do pure (.value (<- Instr.makeMap t (r.map a.eval))))
  cases r with
  | some x=>simp at hl
  | none =>
    simp only at hl;split at hl<;>try cases hl
    rename_i kt et hd
    simp only [ah,ZB,ZL] at he;obtain ⟨rfl,rfl,rfl⟩:=he;exact (QZ hR hd).done
 case lookup t m k ok =>
  show dB P w0 S0 E L' av w (do pure (.value (<- Instr.lookup t (a.eval m) (a.eval k) ok)))
  split at hl<;>try cases hl
  rename_i kt et m' k' hd h1 h2
  split at hl<;>try cases hl
  rename_i kd z h3 h4
  simp only [ah] at he;split at he<;>try cases he
  ·rename_i kv h5 h6
   split at he<;>cases he
   rename_i hf
   exact (Q0 ok hR hd h3 h4 (ag h1 h5 hT) hf (ag h2 h6 hT)).done
  ·rename_i i kv h5 h6
   split at he<;>try cases he
   rename_i es ck h7
   split at he<;>try cases he
   rename_i hf
   have go:=fun r av hm hav=>(Td (P:=P) (r:=r) (av:=av) ok hR hd h3 h4 h7 (ag h1 h5 hT) hf (ag h2 h6 hT) hm hav).done
   split at he<;>cases he
   ·rename_i j v hm;exact go _ _ hm rfl
   ·rename_i hm;exact go _ _ hm rfl
 case mapUpdate t m k v =>
  show dB P w0 S0 E L' av w (do Instr.mapUpdate t (a.eval m) (a.eval k) (a.eval v);pure .skip)
  split at hl<;>try cases hl
  rename_i kt et m' k' v' hd h1 h2 h3
  rcases h4:eA P kt with _|kd<;>simp [h4] at hl
  subst hl;simp only [ah] at he;split at he<;>try cases he
  rename_i i kv x h5 h6 h7
  split at he<;>try cases he
  rename_i es ck h8
  split at he<;>try cases he
  rename_i hf
  have go:=fun r hm=>Tc (P:=P) (r:=r) hR hd h4 h8 (ag h1 h5 hT) hf (ag h2 h6 hT) (ag h3 h7 hT) hm
  split at he<;>cases he
  ·rename_i j y hm
   obtain ⟨w',g1,g2⟩:=go _ hm;exact ⟨E,undef,w',.inr ⟨by simp [g1],rfl⟩,.refl E,by simp [VR],g2⟩
  ·rename_i hm
   obtain ⟨w',g1,g2⟩:=go _ hm;exact ⟨E,undef,w',.inr ⟨by simp [g1],rfl⟩,.refl E,by simp [VR],g2⟩
 case range t x =>
  show dB P w0 S0 E L' av w (do pure (.value (<- Instr.range t (a.eval x))))
  split at hl<;>try cases hl
  ·rename_i hd
   rcases h1:bB x with _|y<;>simp [h1] at hl
   subst hl;simp only [ah] at he;split at he<;>try cases he
   rename_i s h2
   exact (PE hR hd (ag h1 h2 hT)).done
  ·rename_i kt et hd
   rcases h1:bB x with _|y<;>simp [h1] at hl
   subst hl;simp only [ah] at he;split at he<;>try cases he
   ·rename_i h2
    exact (OA hR hd (ag h1 h2 hT)).done
   ·rename_i i h2
    split at he<;>cases he
    rename_i es ck h3
    exact (PF hR hd h3 (ag h1 h2 hT)).done
 case entry x =>
  show dB P w0 S0 E L' av w (do pure (.value (<- Instr.entry (a.eval x))))
  rcases h1:bB x with _|y<;>simp [h1] at hl
  subst hl;simp only [ah] at he;split at he<;>try cases he
  rename_i i h2
  split at he<;>try cases he
  rename_i j since seen st h3
  split at he<;>try cases he
  rename_i es ck h4
  split at he<;>cases he
  rename_i e h5
  exact (PH hR h3 h4 (ag h1 h2 hT) h5).done
 case next x isS =>
  show dB P w0 S0 E L' av w (do pure (.value (<- Instr.next (a.eval x) isS ty)))
  by_cases hS:isS=true
  case neg =>
   rw [if_neg hS] at hl;have hS':isS=false:=by simpa using hS
   subst hS';rcases h1:bB x with _|y<;>simp [h1] at hl
   subst hl;simp only [ah] at he;split at he<;>try cases he
   rename_i i h2
   split at he<;>try cases he
   ·rename_i h3
    exact (PG hR h3 (ag h1 h2 hT)).done
   ·rename_i j since seen last h3
    split at he<;>try cases he
    rename_i es ck h4
    split at he<;>cases he
    rename_i r h5
    exact (QY hR h3 h4 (ag h1 h2 hT) h5).done
  rw [if_pos hS] at hl;subst hS;rcases h1:bB x with _|y<;>simp [h1] at hl
  subst hl;simp only [ah] at he;split at he<;>try cases he
  rename_i i h2
  split at he<;>try cases he
  rename_i s p h3
  have key:=QX (P:=P) (t:=ty) hR h3 (ag h1 h2 hT);split at he<;>cases he
  ·rename_i hp
   rw [if_pos hp,if_pos hp] at key;exact key.done
  ·rename_i hp
   rw [if_neg hp,if_neg hp] at key;exact key.done
 case call c' =>
  obtain ⟨callee,args,ats⟩:=c';split at hl<;>try cases hl
  rename_i xs hx
  split at hl<;>try cases hl
  ·simp [LOp.isCall] at hnc
  ·rename_i x _ _
   rcases h1:bB x with _|y<;>simp only [h1,Z6,ZV,reduceCtorEq,ZB] at hl
   subst hl;simp [LOp.isCall] at hnc
  ·rename_i b hb
   simp only at hb hx hl;subst hb;have:execOp a.eval { dst,op:=.call { callee:=.builtin b,args,argTypes:=ats },type:=ty,pos,after,guard }=builtin b ⟨ats.toList⟩ ty (args.map fun | .const _=>true|_=>false) ⟨args.toList.map a.eval⟩:=by
    simp only [execOp,resolve,pure_bind,invoke]
    congr 1
    apply Array.ext';simp
   rw [this];exact O3 hR hT hx hl he hc fun e=>by subst e;exact WH hR hT hx hl he
end
structure ai where
 dst:Option Nat
 op:LOp
 guard:Option (Nat×Bool)
 deriving Inhabited
def cg (dst:Option Nat) (v:AV) (T:Tm):Tm :=
 match dst with
 | some d=>(d,v)::T
 | none=>T
def dW (r:Option Nat):Fence:={ fn:=fun _=>True,depth:=none,alive:=false,round:=r }
theorem Q9 {P:Program} {f:FuncId} {args:Array Value} {w:World} {R:Ending->World->Prop} (r:Option Nat) (n:Nat) (h:Calls P f args w R):CallsIn (dW r) n P f args w R:=by
 have h1:CallsIn Fence.wide n P f args w R:=callsIn_wide.2 h;cases r<;>exact h1
theorem O9 {P:Program} {n l:Nat} {f:FuncId} {tmps:Array Value} {ca cb:Code} {w:World} {R:Ending->World->Prop} (r:Option Nat) (h:RoundIn (dW none) n P l f tmps ca cb w R):RoundIn (dW r) n P l f tmps ca cb w R:=by
 cases r<;>exact h
def Wk (P:Program) (i:Nat) (args:List AV) (L:List Blk) (Q:AV->List Blk->Prop):Prop :=
 ∀ (w0:World) (S0:SB) (E:Env) (w:World) (vs:List Value),Rel w0 S0 E L w->VRL E args vs->∀ c,E.loc i=some c ->
  ∃ fn tmps ca cb,(Instr.yield c.blk ⟨vs⟩).run P w=.ok (.round c.blk fn tmps ca cb) w/\RoundIn (dW none) 0 P c.blk fn tmps ca cb w fun e w'=>∃ E' v av L',e=.returned v/\E.le E'/\Q av L'/\VR E' av v/\Rel w0 S0 E' L' w'
theorem Wk.mono {P:Program} {i:Nat} {args:List AV} {L:List Blk} {Q Q':AV->List Blk->Prop} (h:Wk P i args L Q) (hq:∀ av L',Q av L'->Q' av L'):Wk P i args L Q':=by
 intro w0 S0 E w vs hR hv c hc;obtain ⟨fn,tmps,ca,cb,h1,h2⟩:=h w0 S0 E w vs hR hv c hc;exact ⟨fn,tmps,ca,cb,h1,h2.mono fun e w' ⟨E',v,av,L',a,b,c,d⟩=>⟨E',v,av,L',a,b,hq _ _ c,d⟩⟩
def af (P:Program) (f:FuncId) (args:List AV) (L:List Blk) (Q:AV->List Blk->Prop):Prop :=
 ∀ (w0:World) (S0:SB) (E:Env) (w:World) (vs:List Value),Rel w0 S0 E L w->VRL E args vs ->
  ((callFunc f ⟨vs⟩).run P w=.ok (.enter f ⟨vs⟩) w/\Calls P f ⟨vs⟩ w fun e w'=>∃ E' v av L',e=.returned v/\E.le E'/\Q av L'/\VR E' av v/\Rel w0 S0 E' L' w') \/
  (∃ E' v av L' w',(callFunc f ⟨vs⟩).run P w=.ok (.value v) w'/\E.le E'/\Q av L'/\VR E' av v/\Rel w0 S0 E' L' w')
theorem af.mono {P:Program} {f:FuncId} {args:List AV} {L:List Blk} {Q Q':AV->List Blk->Prop} (h:af P f args L Q) (hq:∀ av L',Q av L'->Q' av L'):af P f args L Q':=by
 intro w0 S0 E w vs hR hv;rcases h w0 S0 E w vs hR hv with ⟨h1,h2⟩|⟨E',v,av,L',w',h1,h2,h3,h4⟩
 ·exact .inl ⟨h1,h2.mono fun e w' ⟨E',v,av,L',a,b,c,d⟩=>⟨E',v,av,L',a,b,hq _ _ c,d⟩⟩
 ·exact .inr ⟨E',v,av,L',w',h1,h2,hq _ _ h3,h4⟩
def Res (K:Tm->List Blk->Prop) (d:Option Nat) (T:Tm):Option (Prop×AV×List Blk)->Prop
 | some (c,av,L')=>c/\K (cg d av T) L'
 | none=>False
theorem V6 {K:Tm->List Blk->Prop} {d:Option Nat} {T:Tm} {c:Prop} {av:AV} {L':List Blk}:Res K d T (some (c,av,L'))=(c/\K (cg d av T) L'):=rfl
def Kon (K:Tm->List Blk->Prop) (d:Option Nat) (T:Tm):AV->List Blk->Prop:=fun av L'=>K (cg d av T) L'
def Cal (P:Program) (f:FuncId) (K:Tm->List Blk->Prop) (d:Option Nat) (T:Tm) (L:List Blk):Option (List AV)->Prop
 | some args=>af P f args L (Kon K d T)
 | none=>False
theorem Wg {P:Program} {f:FuncId} {K:Tm->List Blk->Prop} {d:Option Nat} {T:Tm} {L:List Blk} {args:List AV}:Cal P f K d T L (some args)=af P f args L (Kon K d T):=rfl
def Wf (P:Program) (K:Tm->List Blk->Prop) (d:Option Nat) (T:Tm) (L:List Blk):Option AV->Option (List AV)->Prop
 | some (.func g caps),some args=>af P g (args++caps) L (Kon K d T)
 | some (.yld i),some args=>Wk P i args L (Kon K d T)
 | _,_=>False
theorem TW {P:Program} {K:Tm->List Blk->Prop} {d:Option Nat} {T:Tm} {L:List Blk} {g:FuncId} {caps args:List AV}:Wf P K d T L (some (.func g caps)) (some args)=af P g (args++caps) L (Kon K d T):=rfl
def AOp (P:Program) (o:ai) (K:Tm->List Blk->Prop) (T:Tm) (L:List Blk):Prop :=
 match o.op with
 | .call f xs=>Cal P f K o.dst T L (eW T xs)
 | .callv f xs=>Wf P K o.dst T L (evX T f) (eW T xs)
 | lo=>Res K o.dst T (ah T L lo)
def Grd (P:Program) (o:ai) (K:Tm->List Blk->Prop) (b:Bool) (T:Tm) (L:List Blk):Option AV->Prop
 | some (.bool x)=>if x=b then AOp P o K T L else K (cg o.dst (.tup []) T) L
 | some (.tup [])=>K (cg o.dst (.tup []) T) L
 | _=>False
theorem De {P:Program} {o:ai} {K:Tm->List Blk->Prop} {b x:Bool} {T:Tm} {L:List Blk}:Grd P o K b T L (some (.bool x))=if x=b then AOp P o K T L else K (cg o.dst (.tup []) T) L:=rfl
theorem RZ {P:Program} {o:ai} {K:Tm->List Blk->Prop} {b:Bool} {T:Tm} {L:List Blk}:Grd P o K b T L (some (.tup []))=K (cg o.dst (.tup []) T) L:=rfl
def iV (P:Program) (K:Tm->List Blk->Prop):List ai->Tm->List Blk->Prop
 | [],T,L=>K T L
 | o::rest,T,L=>match o.guard with
   | none=>AOp P o (iV P K rest) T L
   | some (t,b)=>Grd P o (iV P K rest) b T L (ao T t)
theorem Wn {P:Program} {K:Tm->List Blk->Prop} {T:Tm} {L:List Blk}:iV P K [] T L=K T L:=rfl
theorem TX {P:Program} {K:Tm->List Blk->Prop} {d:Option Nat} {op:LOp} {rest:List ai} {T:Tm} {L:List Blk}:iV P K (⟨d,op,none⟩::rest) T L=AOp P ⟨d,op,none⟩ (iV P K rest) T L:=rfl
theorem Rl {P:Program} {K:Tm->List Blk->Prop} {d:Option Nat} {op:LOp} {t:Nat} {b:Bool} {rest:List ai} {T:Tm} {L:List Blk}:iV P K (⟨d,op,some (t,b)⟩::rest) T L=Grd P ⟨d,op,some (t,b)⟩ (iV P K rest) b T L (ao T t):=rfl
def XI (N:Nat):Option Nat->Bool
 | some d=>decide (d<N)
 | none=>true
def iY (P:Program) (N:Nat) (own:Nat->Nat) (ops:Array Oper) (i:Nat):Option ai :=
 match ops[i]? with
 | none=>none
 | some o=>match (fg P (own i) o.op).getD .bad with
   | lo =>
     if XI N o.dst=true then
      match o.guard with
      | none=>some ⟨o.dst,lo,none⟩
      | some (j,b)=>match (ops[j]?).bind (·.dst) with
        | some t=>if t<N then some ⟨o.dst,lo,some (t,b)⟩ else none
        | none=>none
     else none
def bT (P:Program) (N:Nat) (own:Nat->Nat) (ops:Array Oper):List Nat->Option (List ai)
 | []=>some []
 | i::l=>match iY P N own ops i,bT P N own ops l with
   | some o,some m=>some (o::m)
   | _,_=>none
section
variable {P:Program} {w0:World} {S0:SB} {N:Nat}
theorem Lm (a:Act) (d:Option Nat) (v:Value):(a.put d v).tmps.size=a.tmps.size:=by
 cases d<;>simp [Act.put]
theorem Gq (a:Act) (d:Option Nat) (v:Value):(a.put d v).defers=a.defers:=by
 cases d<;>simp [Act.put]
theorem TR.putT {E:Env} {T:Tm} {a:Act} {d:Option Nat} {x:AV} {v:Value} (r:TR E T a) (hd:∀ k,d=some k->k<a.tmps.size) (hv:VR E x v):TR E (cg d x T) (a.put d v):=by
 cases d with
 | none=>exact r
 | some k=>exact r.put (hd k rfl) hv
def mkD (D:Nat):Deferred:={ target:=.collected D,args:=#[] }
def Rg (w0:World) (S0:SB) (ds:List Deferred):Prop:=S0.B<=w0.heap.size/\ds.Nodup/\∀ d∈ds,∃ D,d=mkD D/\S0.B<=D/\D<w0.heap.size/\¬ S0 D/\w0.heap[D]?=some (.deferred (some []))
theorem Rg.nil {w0:World} {S0:SB} (h:S0.B<=w0.heap.size):Rg w0 S0 []:=⟨h,abU,fun _ h=>by cases h⟩
def St (w0:World) (S0:SB) (N:Nat) (E:Env) (T:Tm) (L:List Blk) (a:Act) (w:World):Prop :=
 Rel w0 S0 E L w/\TR E T a/\a.tmps.size=N/\Rg w0 S0 a.defers
theorem QG {own:Nat} {s d:TypeId} {x:Opd} {lo:LOp} (h:rr P own s d x=some lo):lo.isCall=false:=by
 unfold rr at h
 repeat' split at h
 all_goals (first|(cases h;rfl)|cases h)
theorem ST {op:BinOp} {t:TypeId} {x y:Operand} {lo:LOp} (h:Gv P op t x y=some lo):lo.isCall=false:=by
 unfold Gv at h
 repeat' split at h
 all_goals (first|(cases h;rfl)|cases h)
theorem MP {own:Nat} {b:Builtin} {ts:List TypeId} {xs:List Opd} {lo:LOp} (h:cJ P own b ts xs=some lo):lo.isCall=false:=by
 unfold cJ at h
 repeat' split at h
 all_goals (first|(cases h;rfl)|cases h|(simp only [ZZ] at h;obtain ⟨_,_,rfl⟩:=h;rfl))
theorem Va {own:Nat} {op:Op} {lo:LOp} (h:fg P own op=some lo) (hc:∀ c,op ≠ .call c):lo.isCall=false:=by
 cases op
 case makeMap t r =>
  cases r with
  | some x=>simp [fg] at h
  | none =>
    simp only [fg] at h;split at h<;>cases h
    rfl
 all_goals (simp only [fg] at h;try (cases h;done))
 case call c=>exact absurd rfl (hc c)
 case binOp=>exact ST h
 case convert x=>simp only [abF] at h;obtain ⟨_,_,h⟩:=h;exact QG h
 all_goals
  repeat' split at h
  all_goals (first|(cases h;rfl)|cases h|(simp only [ZZ] at h;obtain ⟨_,_,rfl⟩:=h;rfl))
theorem Dz {own:Nat} {o:Oper} {lo:LOp} {gd:Option (Nat×Bool)} (hl':(fg P own o.op).getD .bad=lo) (hd:∀ d,o.dst=some d->d<N) {T:Tm} {L:List Blk} {E:Env} {a:Act} {w:World} {K:Tm->List Blk->Prop}
  (hst:St w0 S0 N E T L a w) (h:AOp P ⟨o.dst,lo,gd⟩ K T L) {next:Act->World->Prop} {Q:Exit->Act->World->Prop}
  (hK:∀ E' T' L' a' w',E.le E'->K T' L'->St w0 S0 N E' T' L' a' w'->next a' w') {r:Option Nat}:o.wpIn (dW r) 0 P a w next Q:=by
 have hl:fg P own o.op=some lo:=by
  rcases hq:fg P own o.op with _|x
  ·rw [hq] at hl';simp only [ab8] at hl';subst hl';exact h.elim
  ·rw [hq] at hl';simp only [aaA] at hl';rw [hl']
 obtain ⟨hR,hT,hN,hdf⟩:=hst;have hnd:∀ c,o.op ≠ .defer c:=fun c e=>by
  rw [e] at hl;simp [fg] at hl
 refine ⟨fun _ _=>trivial,?_⟩;rw [Oper.semAt_plain _ _ _ hnd];have value:∀ {E':Env} {v:Value} {av:AV} {L':List Blk} {w':World},E.le E'->VR E' av v->Rel w0 S0 E' L' w'->K (cg o.dst av T) L'->next (a.put o.dst v) w':=fun {E' v av L' w'} h1 h2 h3 h4 =>
  hK E' _ _ _ _ h1 h4 ⟨h3,(hT.mono h1).putT (fun k hk=>by rw [hN];exact hd k hk) h2,by rw [Lm];exact hN,by rw [Gq];exact hdf⟩
 have called:∀ {f:FuncId} {vs:List Value} {args:List AV},((execOp a.eval o).run P w=(callFunc f ⟨vs⟩).run P w)->VRL E args vs->af P f args L (Kon K o.dst T)->o.uponIn (dW r) 0 P a next Q ((execOp a.eval o).run P w):=fun {f vs args} hrun hv hc=>by
  rw [hrun];rcases hc w0 S0 E w vs hR hv with ⟨h1,h2⟩|⟨E',v,av,L',w',h1,h2,h3,h4,h5⟩
  ·rw [h1,Oper.uponIn_enter];refine ⟨fun h=>(by cases h),(Q9 r _ h2).mono fun e w' ⟨E',v,av,L',e1,h3,h4,h5,h6⟩=>?_⟩;subst e1;exact value h3 h5 h6 h4
  ·rw [h1,Oper.uponIn_value];exact value h2 h4 h5 h3
 by_cases hcall:lo.isCall=true
 ·obtain ⟨d0,op,ty,pos,after,guard⟩:=o;by_cases hop:∃ c,op=.call c
  ·obtain ⟨⟨callee,args,ats⟩,rfl⟩:=hop;simp only [fg] at hl;split at hl<;>try cases hl
   rename_i xs hx
   split at hl<;>try cases hl
   ·rename_i f
    simp only [AOp] at h;rcases hev:eW T xs with _|l
    ·rw [hev] at h;exact h.elim
    rw [hev] at h;refine called (vs:=args.toList.map a.eval) ?_ (mB hx hev hT) h;rw [execOp_call_go]
    congr 2
    apply Array.ext';simp
   ·rename_i x _
    rcases h1:bB x with _|y<;>simp only [h1,Z6,ZV,reduceCtorEq,ZB] at hl
    subst hl;simp only [AOp] at h;rcases hev:evX T y with _|u
    ·rw [hev] at h;exact h.elim
    rcases hevs:eW T xs with _|l
    ·rw [hev,hevs] at h;cases u<;>exact h.elim
    rw [hev,hevs] at h;cases u<;>simp only [Wf] at h
    case yld i =>
     have hx':=ag h1 hev hT;simp only [VR] at hx';obtain ⟨c,hc,hfv⟩:=hx';have hrun:(execOp a.eval { dst:=d0,op:=.call { callee:=.value x,args,argTypes:=ats },type:=ty,pos,after,guard }).run P w=(Instr.yield c.blk (args.map a.eval)).run P w:=by
      simp only [execOp,resolve,hfv,Deferred.ofValue,pure_bind,invoke]
      congr 2
      simp
     have hargs:(⟨args.toList.map a.eval⟩:Array Value)=args.map a.eval:=by apply Array.ext';simp
     obtain ⟨fn,tmps,ca,cb,k1,k2⟩:=h w0 S0 E w _ hR (mB hx hevs hT) c hc;rw [hrun,<- hargs,k1,Oper.uponIn_round];refine ⟨fun h=>(by cases h),(O9 r k2).mono fun e w' ⟨E',v,av,L',e1,h3,h4,h5,h6⟩=>?_⟩;subst e1;exact value h3 h5 h6 h4
    rename_i g caps
    have hx':=ag h1 hev hT;simp only [VR] at hx';obtain ⟨cs,hfv,hcs⟩:=hx';refine called (vs:=args.toList.map a.eval++cs) ?_ ((mB hx hevs hT).append hcs) h;have:execOp a.eval { dst:=d0,op:=.call { callee:=.value x,args,argTypes:=ats },type:=ty,pos,after,guard }=callFunc g (args.map a.eval++⟨cs⟩):=by
     simp only [execOp,resolve,hfv,Deferred.ofValue,pure_bind,invoke]
     congr 1
     apply Array.ext';simp
    rw [this]
    congr 2
    apply Array.ext';simp
   ·rw [MP hl] at hcall;cases hcall
  ·rw [Va hl (fun c e=>hop ⟨c,e⟩)] at hcall;cases hcall
 ·have hcall:lo.isCall=false:=by simpa using hcall
  have h':Res K o.dst T (ah T L lo):=by
   cases lo<;>simp only [LOp.isCall,aaF] at hcall<;>exact h
  rcases he:ah T L lo with _|⟨c,av,L'⟩
  ·rw [he] at h';exact h'.elim
  ·rw [he] at h';obtain ⟨E',v,w',h1,h2,h3,h4⟩:=OH hR hT hl hcall he h'.1;rcases h1 with h1|⟨h1,rfl⟩
   ·rw [h1,Oper.uponIn_value];exact value h2 h3 h4 h'.2
   ·rw [h1,Oper.uponIn_skip];exact value h2 h3 h4 h'.2
end
section
variable {P:Program} {w0:World} {S0:SB} {N:Nat}
theorem fN {E:Env} {T:Tm} {a:Act} {ops:Array Oper} {j t:Nat} (hT:TR E T a) (hj:(ops[j]?).bind (·.dst)=some t) (ht:t<a.tmps.size) :
  (∀ x,ao T t=some (.bool x)->yielded ops a.tmps j=some x)/\(ao T t=some (.tup [])->yielded ops a.tmps j=none):=by
 refine ⟨fun x hx=>?_,fun hx=>?_⟩
 ·have:=hT t _ hx;simp only [VR] at this;unfold yielded;rw [hj];simp only [aaJ];rw [aac ht];rw [aar,aac ht] at this;simp only [aaA] at this;rw [this]
 ·have:=hT t _ hx;simp only [VR,VRL] at this;obtain ⟨vs,h1,h2⟩:=this;subst h2;unfold yielded;rw [hj];simp only [aaJ];rw [aac ht];rw [aar,aac ht] at h1;simp only [aaA] at h1;rw [h1]
theorem eP {own:Nat->Nat} {ops:Array Oper} {i:Nat} {lo:ai} (h:iY P N own ops i=some lo) :
  ∃ o,ops[i]?=some o/\(fg P (own i) o.op).getD .bad=lo.op/\o.dst=lo.dst/\(∀ d,o.dst=some d->d<N) /\
   ((o.guard=none/\lo.guard=none)\/∃ j b t,o.guard=some (j,b)/\(ops[j]?).bind (·.dst)=some t/\t<N/\lo.guard=some (t,b)):=by
 unfold iY at h;split at h
 ·cases h
 rename_i o ho
 generalize hl:(fg P (own i) o.op).getD .bad=lo' at h;simp only at h;split at h
 ·rename_i hd
  have hd':∀ d,o.dst=some d->d<N:=fun d e=>by rw [e] at hd;simpa [XI] using hd
  split at h
  ·rename_i hg
   cases h;exact ⟨o,ho,hl,rfl,hd',.inl ⟨hg,rfl⟩⟩
  ·rename_i j b hg
   split at h
   ·rename_i t ht
    split at h
    ·rename_i hlt
     cases h;exact ⟨o,ho,hl,rfl,hd',.inr ⟨j,b,t,hg,ht,hlt,rfl⟩⟩
    ·cases h
   ·cases h
 ·cases h
theorem G6 {E:Env} {T:Tm} {L:List Blk} {a:Act} {w:World} (h:St w0 S0 N E T L a w) {d:Option Nat} (hd:∀ k,d=some k->k<N):St w0 S0 N E (cg d (.tup []) T) L (a.put d undef) w :=
 ⟨h.1,h.2.1.putT (fun k hk=>by rw [h.2.2.1];exact hd k hk) ⟨[],rfl,rfl⟩,by rw [Lm];exact h.2.2.1,by rw [Gq];exact h.2.2.2⟩
theorem GW {own:Nat->Nat} {ops:Array Oper} {K:Tm->List Blk->Prop} {Q:Exit->Act->World->Prop} {r:Option Nat}:∀ (is:List Nat) (los:List ai),bT P N own ops is=some los ->
  ∀ {T:Tm} {L:List Blk} {E:Env} {a:Act} {w:World},St w0 S0 N E T L a w->iV P K los T L->(∀ E' T' L' a' w',E.le E'->K T' L'->St w0 S0 N E' T' L' a' w'->Q .normal a' w')->wpOpsIn (dW r) 0 P ops Q is a w
 | [],los,hl,T,L,E,a,w,hst,h,hK=>by
   simp [bT] at hl;subst hl;exact hK E T L a w (.refl E) h hst
 | i::is,los,hl,T,L,E,a,w,hst,h,hK=>by
   simp only [bT] at hl;split at hl<;>try cases hl
   rename_i lo los' h1 h2
   obtain ⟨o,ho,hop,hdst,hd,hg⟩:=eP h1;obtain ⟨ld,lop,lg⟩:=lo;simp only at hop hdst hg;subst hdst;simp only [wpOpsIn,ho];have go:AOp P ⟨o.dst,lop,lg⟩ (iV P K los') T L->o.wpIn (dW r) 0 P a w (wpOpsIn (dW r) 0 P ops Q is) Q:=fun h' =>
    Dz hop hd hst h' fun E' T' L' a' w' hle hk' hst'=>GW is los' h2 hst' hk' fun E'' T'' L'' a'' w'' hle'=>hK E'' T'' L'' a'' w'' (hle.trans hle')
   have skip:iV P K los' (cg o.dst (.tup []) T) L->wpOpsIn (dW r) 0 P ops Q is (a.put o.dst undef) w:=fun h' =>
    GW is los' h2 (G6 hst hd) h' hK
   rcases hg with ⟨g1,g2⟩|⟨j,b,t,g1,g2,g3,g4⟩
   ·subst g2;simp only [iV] at h;rw [if_pos (by simp [Region.wanted,g1])];exact go h
   ·subst g4;simp only [iV] at h;have hy:=fN (E:=E) (T:=T) (a:=a) (ops:=ops) hst.2.1 g2 (by rw [hst.2.2.1];exact g3);rcases hx:ao T t with _|u
    ·rw [hx] at h;exact h.elim
    rw [hx] at h;cases u<;>try exact h.elim
    ·rename_i x
     rw [De] at h;have:=hy.1 x hx;by_cases e:x=b
     ·rw [if_pos (by simp [Region.wanted,g1,this,e])];rw [if_pos e] at h;exact go h
     ·rw [if_neg (by simp [Region.wanted,g1,this,e])];rw [if_neg e] at h;exact ⟨fun _ _=>trivial,skip h⟩
    ·rename_i l
     cases l with
     | cons _ _=>exact h.elim
     | nil =>
       have:=hy.2 hx;rw [if_neg (by simp [Region.wanted,g1,this])];exact ⟨fun _ _=>trivial,skip h⟩
theorem St.weak {T:Tm} {L:List Blk} {E:Env} {a:Act} {w:World} {T':Tm} {L':List Blk} (h:St w0 S0 N E T L a w) (hT:∀ t v,ao T' t=some v->ao T t=some v) (hL:L'.length=L.length)
 (hsub:∀ (i:Nat) (k:Blk),L'[i]?=some k->k=.dead\/L[i]?=some k):St w0 S0 N E T' L' a w:=⟨h.1.kill hL hsub,h.2.1.weak hT,h.2.2⟩
end
def Opd.tmps:Opd->List Nat
 | .tmp t=>[t]
 | .av _=>[]
def SN:Option Opd->List Nat
 | some x=>x.tmps
 | none=>[]
def Oe:List (Nat×Nat×Opd)->List Nat
 | []=>[]
 | (_,_,x)::l=>x.tmps++Oe l
def Nv:List Opd->List Nat
 | []=>[]
 | x::l=>x.tmps++Nv l
def LOp.tmps:LOp->List Nat
 | .mv x | .box x | .load _ _ x | .nilchk x | .slnil _ x | .un _ x | .conv _ x | .sconv x | .b2s x | .s2b x | .s2bO x | .s2bG x | .rangeS x | .nextS x | .mkif _ x | .faddr _ x | .field _ _ _ x | .extract x _ | .len _ x | .cap x | .clear _ _ x=>x.tmps
 | .pick c a b=>c.tmps++a.tmps++b.tmps
 | .alloc _ | .bad | .mkmap=>[]
 | .mlen x | .mrange x | .mnext x | .mentry x=>x.tmps
 | .mget _ _ _ a x=>a.tmps++x.tmps
 | .mdel _ a x=>a.tmps++x.tmps
 | .mset _ c a b=>c.tmps++a.tmps++b.tmps
 | .build _ ps | .bslice _ _ _ _ ps=>Oe ps
 | .store _ a x | .bin _ a x | .eqk _ _ a x | .eq2 _ a x | .mkslice _ _ _ a x | .iaddr _ a x | .iaddrA _ _ a x | .idxS a x | .app _ _ _ _ a x | .appz _ _ _ a x | .copy _ a x=>a.tmps++x.tmps
 | .mkfn _ l | .minmax _ l | .call _ l=>Nv l
 | .callv f l=>f.tmps++Nv l
 | .slS x lo hi | .slA _ _ x lo hi=>x.tmps++SN lo++SN hi
 | .slV _ x lo hi mx=>x.tmps++SN lo++SN hi++SN mx
section
variable {T T':Tm} {L:List Blk}
theorem az {x:Opd} (h:∀ t∈x.tmps,ao T t=ao T' t):evX T x=evX T' x:=by
 cases x with
 | tmp t=>exact h t (by simp [Opd.tmps])
 | av a=>rfl
theorem iS {x:Option Opd} (h:∀ t∈SN x,ao T t=ao T' t):bnd T x=bnd T' x:=by
 cases x with
 | none=>rfl
 | some x=>simp only [bnd,az (x:=x) h]
theorem iR:∀ {l:List Opd},(∀ t∈Nv l,ao T t=ao T' t)->eW T l=eW T' l
 | [],_=>rfl
 | x::l,h=>by
   simp only [Nv,ZD] at h;simp only [eW,az (x:=x) (fun t ht=>h t (.inl ht)),iR (l:=l) (fun t ht=>h t (.inr ht))]
theorem CJ:∀ {ps:List (Nat×Nat×Opd)} {z:List AV},(∀ t∈Oe ps,ao T t=ao T' t)->gh T z ps=gh T' z ps
 | [],_,_=>rfl
 | (o,s,x)::l,z,h=>by
   simp only [Oe,ZD] at h;simp only [gh,az (x:=x) (fun t ht=>h t (.inl ht))];split
   ·split
    ·exact CJ fun t ht=>h t (.inr ht)
    ·rfl
   ·rfl
theorem IH {lo:LOp} (h:∀ t∈lo.tmps,ao T t=ao T' t):ah T L lo=ah T' L lo:=by
 cases lo
 case mv x=>simp only [ah,evD,az (x:=x) h]
 case box x=>simp only [ah,evD,az (x:=x) h]
 case load g s x=>simp only [ah,evD,az (x:=x) h]
 case nilchk x=>simp only [ah,evD,az (x:=x) h]
 case un o x=>simp only [ah,evD,az (x:=x) h]
 case conv k x=>simp only [ah,evD,az (x:=x) h]
 case sconv x=>simp only [ah,evD,az (x:=x) h]
 case b2s x=>simp only [ah,evD,az (x:=x) h]
 case bad=>rfl
 case mkmap=>rfl
 case mlen x=>simp only [ah,evD,az (x:=x) h]
 case mrange x=>simp only [ah,evD,az (x:=x) h]
 case mnext x=>simp only [ah,evD,az (x:=x) h]
 case mentry x=>simp only [ah,evD,az (x:=x) h]
 case mget kd ok z a x =>
  simp only [LOp.tmps,ZD] at h;simp only [ah,evD,az (x:=a) (fun t ht=>h t (.inl ht)),az (x:=x) (fun t ht=>h t (.inr ht))]
 case mdel kd a x =>
  simp only [LOp.tmps,ZD] at h;simp only [ah,evD,az (x:=a) (fun t ht=>h t (.inl ht)),az (x:=x) (fun t ht=>h t (.inr ht))]
 case mset kd c a b =>
  simp only [LOp.tmps,ZD] at h;simp only [ah,evD,az (x:=c) (fun t ht=>h t (.inl (.inl ht))),az (x:=a) (fun t ht=>h t (.inl (.inr ht))),az (x:=b) (fun t ht=>h t (.inr ht))]
 case slnil _ x=>simp only [ah,evD,az (x:=x) h]
 case s2b x=>simp only [ah,evD,az (x:=x) h]
 case s2bO x=>simp only [ah,evD,az (x:=x) h]
 case s2bG x=>simp only [ah,evD,az (x:=x) h]
 case rangeS x=>simp only [ah,evD,az (x:=x) h]
 case nextS x=>simp only [ah,evD,az (x:=x) h]
 case mkif t x=>simp only [ah,evD,az (x:=x) h]
 case faddr o x=>simp only [ah,evD,az (x:=x) h]
 case field g o s x=>simp only [ah,evD,az (x:=x) h]
 case extract x i=>simp only [ah,evD,az (x:=x) h]
 case len b x=>cases b<;>simp only [ah,evD,az (x:=x) h]
 case cap x=>simp only [ah,evD,az (x:=x) h]
 case clear s z x=>simp only [ah,evD,az (x:=x) h]
 case alloc z=>rfl
 case pick c a b =>
  simp only [LOp.tmps,ZD] at h;simp only [ah,evD,az (x:=c) (fun t ht=>h t (.inl (.inl ht))),az (x:=a) (fun t ht=>h t (.inl (.inr ht))),az (x:=b) (fun t ht=>h t (.inr ht))]
 case build z ps=>simp only [ah,evD,CJ (ps:=ps) h]
 case bslice o s n z ps=>simp only [ah,evD,CJ (ps:=ps) h]
 case mkfn f l=>simp only [ah,evD,iR (l:=l) h]
 case minmax m l =>
  match l,h with
  | [x,y],h =>
    simp only [LOp.tmps,Nv,ZD,aah] at h;simp only [ah,evD,az (x:=x) (fun t ht=>h t (.inl ht)),az (x:=y) (fun t ht=>h t (.inr ht))]
  | [],_=>rfl
  | [_],_=>rfl
  | _::_::_::_,_=>rfl
 case call f l=>rfl
 case callv f l=>rfl
 case slS x lo hi =>
  simp only [LOp.tmps,ZD] at h;simp only [ah,evD,az (x:=x) (fun t ht=>h t (.inl (.inl ht))),iS (x:=lo) (fun t ht=>h t (.inl (.inr ht))),iS (x:=hi) (fun t ht=>h t (.inr ht))]
 case slA n s x lo hi =>
  simp only [LOp.tmps,ZD] at h;simp only [ah,evD,az (x:=x) (fun t ht=>h t (.inl (.inl ht))),iS (x:=lo) (fun t ht=>h t (.inl (.inr ht))),iS (x:=hi) (fun t ht=>h t (.inr ht))]
 case slV s x lo hi mx =>
  simp only [LOp.tmps,ZD] at h;simp only [ah,evD,az (x:=x) (fun t ht=>h t (.inl (.inl (.inl ht)))),iS (x:=lo) (fun t ht=>h t (.inl (.inl (.inr ht)))),iS (x:=hi) (fun t ht=>h t (.inl (.inr ht))),iS (x:=mx) (fun t ht=>h t (.inr ht))]
 all_goals
  rename_i a x
  simp only [LOp.tmps,ZD] at h;simp only [ah,evD,az (x:=a) (fun t ht=>h t (.inl ht)),az (x:=x) (fun t ht=>h t (.inr ht))]
end
def ai.reads (o:ai):List Nat :=
 o.op.tmps++(match o.guard with|some (t,_)=>[t]|none=>[])
def AQv (P:Program) (o:ai) (T:Tm) (L:List Blk) (v:AV):Prop :=
 match o.op with
 | .call f xs=>match eW T xs with
   | some args=>af P f args L fun av L'=>av=v/\L'=L
   | none=>False
 | .callv f xs=>match evX T f,eW T xs with
   | some (.func g caps),some args=>af P g (args++caps) L fun av L'=>av=v/\L'=L
   | _,_=>False
 | lo=>match ah T L lo with
   | some (c,av,L')=>c/\av=v/\L'=L
   | none=>False
def AQ (P:Program) (o:ai) (T:Tm) (L:List Blk) (v:AV):Prop :=
 match o.guard with
 | none=>AQv P o T L v
 | some (t,b)=>match ao T t with
   | some (.bool x)=>if x=b then AQv P o T L v else v=.tup []
   | some (.tup [])=>v=.tup []
   | _=>False
theorem AQ.congr {P:Program} {o:ai} {T T':Tm} {L:List Blk} {v:AV} (h:∀ t∈o.reads,ao T t=ao T' t) (hq:AQ P o T L v):AQ P o T' L v:=by
 have h1:∀ t∈o.op.tmps,ao T t=ao T' t:=fun t ht=>h t (by simp [ai.reads,ht])
 have hv:AQv P o T L v->AQv P o T' L v:=fun hv=>by
  unfold AQv at hv ⊢;split at hv
  ·rename_i f xs e
   rw [e] at h1;rw [<- iR (l:=xs) h1];exact hv
  ·rename_i f xs e
   rw [e] at h1;simp only [LOp.tmps,ZD] at h1;rw [<- iR (l:=xs) (fun t ht=>h1 t (.inr ht)),<- az (x:=f) (fun t ht=>h1 t (.inl ht))];exact hv
  ·rw [<- IH h1];exact hv
 unfold AQ at hq ⊢;split at hq
 ·exact hv hq
 ·rename_i t b hg
  rw [<- h t (by simp [ai.reads,hg])];split at hq
  ·split at hq
   ·rename_i e;rw [if_pos e];exact hv hq
   ·rename_i e;rw [if_neg e];exact hq
  ·exact hq
  ·exact hq.elim
def TL (T:Tm):List ai->List AV->Nat->(Nat->Bool)->Tm
 | o::qs,v::tr,k,f=>TL (if f k=true then cg o.dst v T else T) qs tr (k+1) f
 | _,_,_,_=>T
def P9:List ai->Prop
 | []=>True
 | o::qs=>(∀ p∈qs,∀ d,o.dst=some d->p.dst≠some d)/\P9 qs
theorem ru {T:Tm} {d:Option Nat} {v:AV} {t:Nat} (h:d≠some t):ao (cg d v T) t=ao T t:=by
 cases d with
 | none=>rfl
 | some d=>simp only [cg,ao];rw [if_neg (fun e=>h (by rw [e]))]
theorem Iv {T:Tm} {v:AV} {t:Nat}:ao (cg (some t) v T) t=some v:=by simp [cg,ao]
theorem K0 {t:Nat}:∀ {qs:List ai} {tr:List AV} {T:Tm} {k:Nat} {f:Nat->Bool},(∀ (j:Nat) (o:ai),qs[j]?=some o->o.dst=some t->f (k+j)=false)->ao (TL T qs tr k f) t=ao T t
 | [],tr,T,k,f,_=>by cases tr<;>rfl
 | o::qs,[],T,k,f,_=>rfl
 | o::qs,v::tr,T,k,f,h=>by
   simp only [TL];rw [K0 (fun j p hp hd=>by have:=h (j+1) p (by simpa using hp) hd;rwa [show k+1+j=k+(j+1) by omega])];split
   ·rename_i hf
    refine ru fun e=>?_
    have:=h 0 o (by simp) e;simp [hf] at this
   ·rfl
theorem RW {t:Nat} {v:AV}:∀ {qs:List ai} {tr:List AV} {T:Tm} {k:Nat} {f:Nat->Bool} {j:Nat} {o:ai},P9 qs->qs[j]?=some o->o.dst=some t->tr[j]?=some v->f (k+j)=true->ao (TL T qs tr k f) t=some v
 | [],_,_,_,_,j,o,_,h,_,_,_=>by simp at h
 | p::qs,[],_,_,_,j,o,_,_,_,h,_=>by simp at h
 | p::qs,u::tr,T,k,f,0,o,hD,h,hd,hv,hf=>by
   simp only [aao,ZB] at h hv;subst h hv;simp only [TL];simp only [aaP] at hf;rw [if_pos hf,K0 fun j q hq hqd=>absurd hqd (hD.1 q (aad hq) t hd),hd];exact Iv
 | p::qs,u::tr,T,k,f,j+1,o,hD,h,hd,hv,hf=>by
   simp only [TL];exact RW hD.2 (by simpa using h) hd (by simpa using hv) (by rwa [show k+1+j=k+(j+1) by omega])
theorem MC:∀ {qs:List ai} {tr:List AV} {T:Tm} {k:Nat} {f g:Nat->Bool},(∀ j,j<qs.length->f (k+j)=g (k+j))->TL T qs tr k f=TL T qs tr k g
 | [],tr,T,k,f,g,_=>by cases tr<;>rfl
 | o::qs,[],T,k,f,g,_=>rfl
 | o::qs,v::tr,T,k,f,g,h=>by
   simp only [TL];have h0:=h 0 (by simp);simp only [aaP] at h0;rw [h0];exact MC fun j hj=>by rw [show k+1+j=k+(j+1) by omega];exact h (j+1) (by simpa using hj)
theorem P2:∀ (qs:List ai) (tr:List AV) (T:Tm) (k:Nat),TL T qs tr k (fun _=>false)=T:=by
 intro qs
 induction qs with
 | nil=>intro tr T k;cases tr<;>rfl
 | cons q qs ih=>intro tr T k;cases tr with
   | nil=>rfl
   | cons u tr=>simp only [TL];rw [ih];simp
theorem Dg {t:Nat}:∀ {qs:List ai} {i j:Nat} {o p:ai},P9 qs->qs[i]?=some o->qs[j]?=some p->o.dst=some t->p.dst=some t->i=j
 | [],i,j,o,p,_,h,_,_,_=>by simp at h
 | q::qs,0,0,o,p,_,_,_,_,_=>rfl
 | q::qs,0,j+1,o,p,hD,h1,h2,d1,d2=>by
   simp only [aao,ZB] at h1;subst h1;exact absurd d2 (hD.1 p (aad (by simpa using h2)) t d1)
 | q::qs,i+1,0,o,p,hD,h1,h2,d1,d2=>by
   simp only [aao,ZB] at h2;subst h2;exact absurd d1 (hD.1 o (aad (by simpa using h1)) t d2)
 | q::qs,i+1,j+1,o,p,hD,h1,h2,d1,d2=>by
   have:=Dg (i:=i) (j:=j) (o:=o) (p:=p) hD.2 (by simpa using h1) (by simpa using h2) d1 d2;omega
theorem OQ {qs:List ai} {tr:List AV} {T:Tm} {f:Nat->Bool} {j t:Nat} {o:ai} (hD:P9 qs) (hl:tr.length=qs.length) (h:qs[j]?=some o) (hd:o.dst=some t) :
  ao (TL T qs tr 0 f) t=if f j=true then tr[j]? else ao T t:=by
 have hj:j<tr.length:=by have:=(Zz.1 h).1;omega
 split
 ·rename_i hf
  rw [ZR hj];exact RW hD h hd (ZR hj) (by simpa using hf)
 ·rename_i hf
  exact K0 fun j' o' ho' hd'=>by
   have:=Dg hD ho' h hd' hd;subst this;simpa using hf
theorem OR {qs:List ai} {tr:List AV} {T:Tm} {f:Nat->Bool} {t:Nat} (h:∀ (j:Nat) (o:ai),qs[j]?=some o->o.dst≠some t):ao (TL T qs tr 0 f) t=ao T t :=
 K0 fun j o ho hd=>absurd hd (h j o ho)
def RP (tbl:List Nat) (o:Oper):Nat:=(o.after.toList.filter fun e=>Region.binds .any e).foldl (fun acc e=>acc ||| (1 <<< e.on) ||| tbl.getD e.on 0) 0
def kW:List Oper->List Nat->List Nat
 | [],t=>t
 | o::l,t=>kW l (t++[RP t o])
def VE (ops:Array Oper) (tbl:List Nat):Bool:=ops.toList.zipIdx.all fun (o,i)=>tbl.getD i 0 == RP tbl o
theorem NR {tbl:List Nat} {o:Oper} {j:Nat} (h:(RP tbl o).testBit j=true):∃ e∈o.after.toList,Region.binds .any e=true/\(j=e.on\/(tbl.getD e.on 0).testBit j=true):=by
 have key:∀ (l:List Edge) (acc:Nat),(l.foldl (fun acc e=>acc ||| (1 <<< e.on) ||| tbl.getD e.on 0) acc).testBit j=true->acc.testBit j=true\/∃ e∈l,j=e.on\/(tbl.getD e.on 0).testBit j=true:=by
  intro l
  induction l with
  | nil=>intro acc h;exact .inl h
  | cons e l ih =>
    intro acc h;rcases ih _ h with h1|⟨e',h1,h2⟩
    ·rw [Nat.testBit_or,Nat.testBit_or,aaa,aaa] at h1;rcases h1 with (h1|h1)|h1
     ·exact .inl h1
     ·refine .inr ⟨e,by simp,.inl ?_⟩;rw [Nat.one_shiftLeft,Nat.testBit_two_pow] at h1;exact (of_decide_eq_true h1).symm
     ·exact .inr ⟨e,by simp,.inr h1⟩
    ·exact .inr ⟨e',by simp [h1],h2⟩
 rcases key _ _ h with h1|⟨e,h1,h2⟩
 ·simp at h1
 ·rw [aak] at h1;exact ⟨e,h1.1,h1.2,h2⟩
def RN:List ai->Bool
 | []=>true
 | o::qs=>(match o.dst with|some d=>qs.all fun p => !(p.dst == some d)|none=>true) && RN qs
theorem LZ:∀ {qs:List ai},RN qs=true->P9 qs
 | [],_=>trivial
 | o::qs,h=>by
   simp only [RN,ZE] at h;refine ⟨fun p hp d hd=>?_,LZ h.2⟩;have h1:=h.1;rw [hd] at h1;have:=ZJ.1 h1 p hp;simpa using this
def YV (tbl:List Nat) (los:List ai):Bool :=
 los.zipIdx.all fun (o,i)=>o.reads.all fun t=>los.zipIdx.all fun (p,j) => !(p.dst == some t) || (tbl.getD i 0).testBit j || (tbl.getD j 0).testBit i
def MA (ops:Array Oper):Bool:=ops.toList.zipIdx.all fun (o,i)=>o.after.toList.all fun e => !Region.binds .any e || decide (e.on<i)
def Q8 (tbl:List Nat) (n k:Nat):Bool:=(List.range k).all fun i=>decide (i<n) || (List.range i).all fun j=>(tbl.getD i 0).testBit j
def NU (tbl:List Nat) (k:Nat):Nat->Nat
 | 0=>0
 | n+1=>if ((List.range n).all fun j=>(tbl.getD n 0).testBit j)=true then NU tbl k n else n+1
def CM (ops:Array Oper) (los:List ai) (n:Nat):Bool :=
 let tbl:=kW ops.toList []
 RN los && YV tbl los && MA ops && VE ops tbl && Q8 tbl n ops.size
def JI (ops:Array Oper) (listed:Array Bool):Prop:=∀ (i:Nat) (o:Oper),listed.getD i false=true->ops[i]?=some o->∀ e∈o.after,Region.binds .any e=true->listed.getD e.on false=true
theorem Rs {ops:Array Oper} {tbl:List Nat} (hf:VE ops tbl=true) {i:Nat} {o:Oper} (ho:ops[i]?=some o):tbl.getD i 0=RP tbl o:=by
 have:=ZJ.1 hf (o,i) (by rw [abG];simpa using ho);simpa using this
theorem DA {ops:Array Oper} (h:MA ops=true) {i:Nat} {o:Oper} (ho:ops[i]?=some o) {e:Edge} (he:e∈o.after) (hb:Region.binds .any e=true):e.on<i:=by
 have:=ZJ.1 h (o,i) (by rw [abG];simpa using ho);have:=ZJ.1 this e (by simpa using he);simpa [hb] using this
theorem OK {ops:Array Oper} {tbl:List Nat} (h:MA ops=true) (hf:VE ops tbl=true):∀ (i j:Nat),i<ops.size->(tbl.getD i 0).testBit j=true->j<i:=by
 intro i
 induction i using Nat.strongRecOn with
 | _ i ih =>
   intro j hi hj;have ho:ops[i]?=some ops[i]:=aac hi;rw [Rs hf ho] at hj;obtain ⟨e,he,hb,hj⟩:=NR hj;have hlt:=DA h ho (by simpa using he) hb;rcases hj with rfl|hj
   ·exact hlt
   ·have:=ih e.on hlt j (by omega) hj;omega
theorem dT {ops:Array Oper} {tbl:List Nat} (h:MA ops=true) (hf:VE ops tbl=true) {listed:Array Bool} (hc:JI ops listed):∀ (i j:Nat),i<ops.size ->
  (∀ o,ops[i]?=some o->∀ e∈o.after,Region.binds .any e=true->listed.getD e.on false=true)->(tbl.getD i 0).testBit j=true->listed.getD j false=true:=by
 intro i
 induction i using Nat.strongRecOn with
 | _ i ih =>
   intro j hi hed hj;have ho:ops[i]?=some ops[i]:=aac hi;rw [Rs hf ho] at hj;obtain ⟨e,he,hb,hj⟩:=NR hj;have hlt:=DA h ho (by simpa using he) hb;have hl:=hed _ ho e (by simpa using he) hb;rcases hj with rfl|hj
   ·exact hl
   ·exact ih e.on hlt j (by omega) (fun o' ho' e' he' hb'=>hc e.on o' hl ho' e' he' hb') hj
theorem NQ:∀ (l:List Bool) (i:Nat),l[i]?=some false->(l.set i true).count false+1=l.count false
 | [],i,h=>by simp at h
 | b::l,0,h=>by simp at h;subst h;simp
 | b::l,i+1,h=>by
   have:=NQ l i (by simpa using h);simp only [List.set_cons_succ,List.count_cons];omega
theorem rq {P:Program} {N:Nat} {own:Nat->Nat} {ops:Array Oper}:∀ {is:List Nat} {los:List ai},bT P N own ops is=some los->los.length=is.length/\∀ (k i:Nat),is[k]?=some i->∃ lo,los[k]?=some lo/\iY P N own ops i=some lo
 | [],los,h=>by simp [bT] at h;subst h;simp
 | j::is,los,h=>by
   simp only [bT] at h;split at h<;>try cases h
   rename_i o m h1 h2
   have:=rq h2;refine ⟨by simp [this.1],fun k i hk=>?_⟩;cases k with
   | zero=>simp at hk;subst hk;exact ⟨o,by simp,h1⟩
   | succ k=>simpa using this.2 k i (by simpa using hk)
section
variable {P:Program} {r:Option Nat} {w0:World} {S0:SB} {N:Nat} {own:Nat->Nat} {ops:Array Oper} {L:List Blk}
theorem V0 {i:Nat} {lo:ai} (h1:iY P N own ops i=some lo) {T:Tm} {v:AV} {E:Env} {a:Act} {w:World} (hst:St w0 S0 N E T L a w) (hq:AQ P lo T L v) {K:Act->World->Prop} {Q:Exit->Act->World->Prop}
  (hK:∀ E' a' w',E.le E'->St w0 S0 N E' (cg lo.dst v T) L a' w'->K a' w'):wpOpIn (dW r) 0 P ops Q i K a w:=by
 obtain ⟨o,ho,hop,hdst,hd,hg⟩:=eP h1;obtain ⟨ld,lop,lg⟩:=lo;simp only at hop hdst hg hK;subst hdst;unfold wpOpIn;simp only [ho];have toOp:AQv P ⟨o.dst,lop,lg⟩ T L v->AOp P ⟨o.dst,lop,lg⟩ (fun T' L'=>T'=cg o.dst v T/\L'=L) T L:=fun hv=>by
  unfold AQv at hv;unfold AOp;simp only at hv ⊢;split at hv
  ·split at hv
   ·rename_i f xs _ args he
    show Cal P f _ o.dst T L (eW T xs)
    rw [he];exact hv.mono fun av L' ⟨e1,e2⟩=>by subst e1;exact ⟨rfl,e2⟩
   ·exact hv.elim
  ·split at hv
   ·rename_i f xs _ _ g caps args he1 he2
    show Wf P _ o.dst T L (evX T f) (eW T xs)
    rw [he1,he2];exact hv.mono fun av L' ⟨e1,e2⟩=>by subst e1;exact ⟨rfl,e2⟩
   ·exact hv.elim
  ·split at hv
   ·rename_i c av L' he
    have hres:Res (fun T' L'=>T'=cg o.dst v T/\L'=L) o.dst T (ah T L lop):=by
     rw [he];obtain ⟨hc,rfl,rfl⟩:=hv;exact ⟨hc,rfl,rfl⟩
    cases lop<;>first|exact hres|(simp [ah] at he)
   ·exact hv.elim
 have go:AQv P ⟨o.dst,lop,lg⟩ T L v->o.wpIn (dW r) 0 P a w K Q:=fun hv =>
  Dz hop hd hst (toOp hv) fun E' T' L' a' w' hle hk hst'=>by
   obtain ⟨rfl,rfl⟩:=hk;exact hK E' a' w' hle hst'
 unfold AQ at hq;rcases hg with ⟨g1,g2⟩|⟨j,b,t,g1,g2,g3,g4⟩
 ·subst g2;simp only at hq;rw [if_pos (by simp [Region.wanted,g1])];exact (go hq)
 ·subst g4;simp only at hq;have hy:=fN (E:=E) (T:=T) (a:=a) (ops:=ops) hst.2.1 g2 (by rw [hst.2.2.1];exact g3);split at hq
  ·rename_i x hx
   have:=hy.1 x hx;by_cases e:x=b
   ·rw [if_pos e] at hq;rw [if_pos (by simp [Region.wanted,g1,this,e])];exact (go hq)
   ·rw [if_neg e] at hq;subst hq;rw [if_neg (by simp [Region.wanted,g1,this,e])];exact ⟨fun _ _=>trivial,hK E _ w (.refl E) (G6 hst hd)⟩
  ·rename_i hx
   have:=hy.2 hx;subst hq;rw [if_neg (by simp [Region.wanted,g1,this])];exact ⟨fun _ _=>trivial,hK E _ w (.refl E) (G6 hst hd)⟩
  ·exact hq.elim
theorem Mz {i:Nat} {lo:ai} (h1:iY P N own ops i=some lo) {T:Tm} {L:List Blk} {E:Env} {a:Act} {w:World} (hst:St w0 S0 N E T L a w) {K:Tm->List Blk->Prop} (h:iV P K [lo] T L) {K':Act->World->Prop} {Q:Exit->Act->World->Prop}
  (hK:∀ E' T' L' a' w',E.le E'->K T' L'->St w0 S0 N E' T' L' a' w'->K' a' w'):wpOpIn (dW r) 0 P ops Q i K' a w:=by
 obtain ⟨o,ho,hop,hdst,hd,hg⟩:=eP h1;obtain ⟨ld,lop,lg⟩:=lo;simp only at hop hdst hg;subst hdst;unfold wpOpIn;simp only [ho];have go:AOp P ⟨o.dst,lop,lg⟩ (iV P K []) T L->o.wpIn (dW r) 0 P a w K' Q:=fun h' =>
  Dz hop hd hst h' fun E' T' L' a' w' hle hk' hst'=>hK E' T' L' a' w' hle hk' hst'
 have skip:K (cg o.dst (.tup []) T) L->K' (a.put o.dst undef) w:=fun h'=>hK E _ L _ w (.refl E) h' (G6 hst hd)
 rcases hg with ⟨g1,g2⟩|⟨j,b,t,g1,g2,g3,g4⟩
 ·subst g2;simp only [iV] at h;rw [if_pos (by simp [Region.wanted,g1])];exact (go h)
 ·subst g4;simp only [iV] at h;have hy:=fN (E:=E) (T:=T) (a:=a) (ops:=ops) hst.2.1 g2 (by rw [hst.2.2.1];exact g3);rcases hx:ao T t with _|u
  ·rw [hx] at h;exact h.elim
  rw [hx] at h;cases u<;>try exact h.elim
  ·rename_i x
   rw [De] at h;have:=hy.1 x hx;by_cases e:x=b
   ·rw [if_pos (by simp [Region.wanted,g1,this,e])];rw [if_pos e] at h;exact (go h)
   ·rw [if_neg (by simp [Region.wanted,g1,this,e])];rw [if_neg e] at h;exact ⟨fun _ _=>trivial,skip h⟩
  ·rename_i l
   cases l with
   | cons _ _=>exact h.elim
   | nil =>
     have:=hy.2 hx;rw [if_neg (by simp [Region.wanted,g1,this])];exact ⟨fun _ _=>trivial,skip h⟩
theorem Qj {los:List ai} {tbl:List Nat} {n:Nat} (hlow:bT P N own ops (List.range ops.size)=some los) (hahead:MA ops=true) (hfix:VE ops tbl=true) (hchain:Q8 tbl n ops.size=true)
  {K:Tm->List Blk->Prop} {Q:Exit->Act->World->Prop} {E0:Env} (hQ:∀ E' T' L' a' w',E0.le E'->K T' L'->St w0 S0 N E' T' L' a' w'->Q .normal a' w') :
  ∀ (ts:List ai) (k:Nat) (listed:Array Bool) (T:Tm) (L:List Blk) (a:Act) (w:World) (E:Env),n<=k->k+ts.length=ops.size->los.drop k=ts->listed.size=ops.size ->
   (∀ i,i<ops.size->listed.getD i false=decide (i<k))->JI ops listed->E0.le E->St w0 S0 N E T L a w->iV P K ts T L->wpAnyIn (dW r) 0 P .any ops Q ts.length listed a w:=by
 have hget:=rq hlow;have ready:∀ (k:Nat) (listed:Array Bool),n<=k->listed.size=ops.size->(∀ i,i<ops.size->listed.getD i false=decide (i<k))->JI ops listed->∀ i∈Region.ready .any ops listed,i=k:=by
  intro k listed hnk hsz hl hcl i hi;obtain ⟨hun,o,ho,hed⟩:=mem_ready.1 hi;have hi':i<ops.size:=(aaE.1 ho).1;have hik:¬ i<k:=fun e=>by
   have h1:=hl i hi';have hlt:i<listed.size:=by omega
   simp only [decide_eq_true e] at h1;simp [aar,hlt] at h1 hun;rw [h1] at hun;cases hun
  rcases ZT k i with h1|h1
  ·have:=ZJ.1 hchain i (by simpa using hi');simp only [aaa,decide_eq_true_eq] at this;rcases this with h2|h2
   ·omega
   ·have h3:=ZJ.1 h2 k (by simpa using h1);have h4:=dT hahead hfix hcl i k hi' (fun o' ho'=>by rw [ho] at ho';cases ho';exact hed) h3;rw [hl k (by omega)] at h4;simp at h4
  ·omega
 intro ts
 induction ts with
 | nil =>
   intro k listed T L a w E hnk hk hts hsz hl hcl hE hst h;refine ⟨act.2 (fun i hi=>?_),hQ E T L a w hE h hst⟩;have h1:=ready k listed hnk hsz hl hcl i hi;obtain ⟨_,o,ho,_⟩:=mem_ready.1 hi;have hi':i<ops.size:=(aaE.1 ho).1;simp at hk;omega
 | cons t ts ih =>
   intro k listed T L a w E hnk hk hts hsz hl hcl hE hst h;simp only [ZN] at hk;have hkl:k<ops.size:=by omega
   have hmem:k∈Region.ready .any ops listed:=by
    refine mem_ready.2 ⟨?_,ops[k],aac hkl,fun e he hbd=>?_⟩
    ·have h1:=hl k hkl;have hlt:k<listed.size:=by omega
     simp [aar,hlt] at h1 ⊢;exact h1
    ·have:=DA hahead (aac hkl) he hbd;rw [hl _ (by omega)];simpa using this
   refine ⟨fun e=>absurd hmem (by rw [e];simp),fun i hi=>?_⟩;have hik:=ready k listed hnk hsz hl hcl i hi;subst hik;obtain ⟨lo,g1,g2⟩:=hget.2 i i (by simp [hkl]);have ht:lo=t:=by
    have:=congrArg (fun l=>l[0]?) hts;simp only [aan,aaP,aao] at this;rw [g1] at this;exact Option.some.inj this
   subst ht;have h':iV P (iV P K ts) [lo] T L:=by
    obtain ⟨d,op,g⟩:=lo;cases g<;>exact h
   exact Mz g2 hst h' fun E' T' L' a' w' hle hk' hst'=>by
    refine ih (i+1) (listed.setIfInBounds i true) T' L' a' w' E' (by omega) (by omega) ?_ (by simpa using hsz) (fun j hj=>?_) ?_ (hE.trans hle) hst' hk'
    ·rw [<- List.drop_drop,hts];rfl
    ·by_cases e:j=i
     ·subst e;have:j<listed.size:=by omega
      simp [aar,this]
     ·rw [getD_set_ne false (Ne.symm e),hl j hj]
      congr 1
      apply propext;omega
    ·intro j o' hj ho' e he hb;have h5:=DA hahead ho' he hb;have h6:j<ops.size:=(aaE.1 ho').1;by_cases e1:j=i
     ·subst e1;rw [getD_set_ne false (by omega),hl _ (by omega)];simpa using h5
     ·rw [getD_set_ne false (Ne.symm e1)] at hj;rw [getD_set_ne false (by rw [hl j h6] at hj;simp at hj;omega)];exact hcl j o' hj ho' e he hb
def lst (L:List Blk) (al:Option (Nat×List AV)) (listed:Array Bool):List Blk :=
 match al with
 | some (i,z)=>if listed.getD i false=true then L++[.cells z] else L
 | none=>L
end
end Go.Proofs.YtcmfcpjnhephaaaGreatDoor.Av
