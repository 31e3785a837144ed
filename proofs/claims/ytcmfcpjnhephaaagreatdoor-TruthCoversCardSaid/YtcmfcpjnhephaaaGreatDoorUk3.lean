/- Joined texts of the walk, made small by a program. -/
import Derived.Test.YtcmfcpjnhephaaaGreatDoorUk2
import Derived.MapKept
set_option linter.unusedSimpArgs false
set_option linter.unusedVariables false
namespace Go.Proofs.YtcmfcpjnhephaaaGreatDoor.Av
open Go
variable {P:Program}{f:FuncId}{i t:Nat}{args:List AV}{L:List Blk}{K:Tm->List Blk->Prop}{d:Option Nat}{T:Tm}{b:Bool}{v:AV}{tbl:List Nat}{ops:Array Oper}
section
variable {P:Program}{w0:World}{S0:SB}{E:Env}{L:List Blk}{w:World}{T:Tm}{a:Act}
theorem afe{own:Nat}{s d:TypeId}{x:Operand}{x':Opd}{lo:LOp}{c:Prop}{av:AV}{L':List Blk}(hR:Rel w0 S0 E L w)(hT:TR E T a)(hx:bG x=some x')(hl:xY P own s d x'=some lo)(he:ak T L lo=some (c,av,L'))(hc:c):
  eu P w0 S0 E L' av w (do pure (.value (<- convert s d (a.eval x)))):=by
 unfold xY at hl;split at hl;rename_i j k hs hd;cases hl;simp only[ak]at he;split at he<;>try cases he
 rename_i q n h1;exact(ad9 hR ⟨j,hs⟩ hd (ai hx h1 hT)).done;rename_i hs hd;cases hl;simp only[ak]at he;split at he<;>try cases he
 rename_i l h1;exact(abK hR hs hd (ai hx h1 hT) ⟨l,rfl⟩).done;rename_i e hs hd;split at hl<;>try cases hl
 rename_i he';simp only[ak]at he;split at he<;>try cases he
 rename_i u hn h1;split at he<;>try cases he
 rename_i c' l n h2;exact(agB hR hs he' hd (ai hx h1 hT) h2 hc.1 hc.2 (λt e=>hn t e)).done
 .rename_i e hs hd;split at hl<;>try cases hl
  rename_i he'
  repeat' split at hl
  all_goals cases hl
  simp only[ak]at he;split at he<;>try cases he
  rename_i s' h1;exact(ad3 hR hs hd he' (ai hx h1 hT)).done;simp only[ak]at he;split at he<;>try cases he
  rename_i s' h1;exact(ad4 hR hs hd he' (ai hx h1 hT)).done;simp only[ak]at he;split at he<;>try cases he
  rename_i s' h1;exact(agy hR hs hd he' (ai hx h1 hT)).done
 cases hl
theorem acS{xs:List Operand}{ys:List Opd}(h:qb xs=some ys):ys.length=xs.length/\∀(i:Nat) (y:Opd),ys[i]?=some y->∃x,xs[i]?=some x/\bG x=some y:=by
 induction xs generalizing ys with
 |nil=>simp[qb]at h;subst h;simp
 | cons x xs ih =>
   simp only[qb,anz]at h;rcases h1:bG x with _|y
   .simp[h1]at h
   .rcases h2:xs.mapM bG with _|ys'
    .simp[h1,h2]at h
    .simp[h1,h2]at h;subst h;have:=ih (by simpa[qb]using h2);refine⟨by simp[this.1],λi z hz=>?_⟩;cases i with
     |zero=>simp at hz;subst hz;exact⟨x,aoK,h1⟩
     |succ i=>simpa using this.2 i z (by simpa using hz)
theorem ahf{xs:List Operand}{y:Opd}(h:qb xs=some [y]):∃x,xs=[x]/\bG x=some y:=by
 have:=acS h
 match xs,this with
 | [x],⟨_,h2⟩ =>
   obtain⟨z,h3,h4⟩:=h2 0 y aoK;simp at h3;subst h3;exact⟨x,rfl,h4⟩
theorem aaH{xs:List Operand}{y z:Opd}(h:qb xs=some [y,z]):∃u v,xs=[u,v]/\bG u=some y/\bG v=some z:=by
 have:=acS h
 match xs,this with
 | [u,v],⟨_,h2⟩ =>
   obtain⟨p,h3,h4⟩:=h2 0 y aoK;simp at h3;subst h3;obtain⟨q,h5,h6⟩:=h2 1 z aoK;simp at h5;subst h5;exact⟨u,v,rfl,h4,h6⟩
theorem ah0{own:Nat}{t:TypeId}{y:Opd}{xs:List Operand}{ty:TypeId}{cs:Array Bool}{lo:LOp}{c:Prop}{av:AV}{L':List Blk}(hR:Rel w0 S0 E L w)(hT:TR E T a)(hx:qb xs=some [y])(hl:dl P own .len [t] [y]=some lo)(he:ak T L lo=some (c,av,L')):eu P w0 S0 E L' av w (builtin .len ⟨[t]⟩ ty cs ⟨xs.map a.eval⟩):=by
 obtain⟨x,rfl,hx'⟩:=ahf hx;have run:∀(n:Int),(Builtin.len_ #[t] ty #[a.eval x]).run P w=.ok (.int .i64 n) w->eu P w0 S0 E L (.int .i64 n) w (builtin .len ⟨[t]⟩ ty cs ⟨[x].map a.eval⟩):=λn h=>.same hR (v:=.int .i64 n) (by simp[builtin,h]) (by simp[VR])
 simp only[dl]at hl;split at hl;rename_i hd;cases hl;simp only[ak]at he;split at he<;>try cases he
 rename_i s h1;have hv:=ai hx' h1 hT;simp only[VR]at hv;have hsz:(ByteArray.mk ⟨s⟩).size=s.length:=rfl;exact run _ (by simp only[Builtin.len_,anC,amk,alz,run_underlying hd,alB,hv,goInt,hsz,alV])
 .rename_i e hd;cases hl;simp only[ak]at he;split at he<;>try cases he
  all_goals rename_i h1;have hv:=ai hx' h1 hT
  simp only[VR]at hv;exact run _ (by simp[Builtin.len_,run_underlying hd,hv,goInt]);simp only[VR]at hv;obtain⟨_,_,hv,_⟩:=hv;exact run _ (by simp[Builtin.len_,run_underlying hd,hv,goInt]);simp only[VR]at hv;obtain⟨_,_,hv,_⟩:=hv;exact run _ (by simp[Builtin.len_,run_underlying hd,hv,goInt]);obtain⟨_,_,hv⟩:=hv.lsl_shape;exact run _ (by simp[Builtin.len_,run_underlying hd,hv,goInt])
 rename_i n e hd;cases hl;simp only[ak,evX,alL,als,alE]at he;obtain⟨rfl,rfl,rfl⟩:=he;exact run _ (by simp[Builtin.len_,run_underlying hd,goInt])
 .rename_i kt et hd;cases hl;simp only[ak]at he;split at he<;>try cases he
  all_goals rename_i h1;have hv:=ai hx' h1 hT
  simp only[VR]at hv;exact run _ (by simp[Builtin.len_,run_underlying hd,hv,goInt]);split at he<;>try cases he
  rename_i es ck h2;simp only[VR]at hv;obtain⟨d,hd1,hv⟩:=hv;obtain⟨d',rs,g1,g2,g3⟩:=hR.blk _ _ h2;rw[hd1]at g1;cases g1;have hlen:∀{es:List (AV×AV×Nat)}{rs:List MapEntry},ay E es rs->rs.length=es.length:=by
   intro es;induction es with
   |nil=>intro rs h;simp only[ay]at h;subst h;rfl
   |cons p es ih=>intro rs h;obtain⟨q,y,b⟩:=p;obtain⟨f,s,rfl,_,_,_,g4⟩:=h;simp[ih g4]
  have hg:(getObj d.blk).run P w=.ok (.map rs ck) w:=(by simp[getObj,Sem.run,g2]);have hl2:rs.size=es.length:=(by rw[<- hlen g3];simp);exact run _ (by simp[Builtin.len_,run_underlying hd,hv,goInt,hg,hl2])
 cases hl
theorem ah2{own:Nat}{t:TypeId}{y:Opd}{xs:List Operand}{ty:TypeId}{cs:Array Bool}{lo:LOp}{c:Prop}{av:AV}{L':List Blk}(hR:Rel w0 S0 E L w)(hT:TR E T a)(hx:qb xs=some [y])(hl:dl P own .cap [t] [y]=some lo)(he:ak T L lo=some (c,av,L')):eu P w0 S0 E L' av w (builtin .cap ⟨[t]⟩ ty cs ⟨xs.map a.eval⟩):=by
 obtain⟨x,rfl,hx'⟩:=ahf hx;have run:∀(n:Int),(Builtin.cap_ #[t] ty #[a.eval x]).run P w=.ok (.int .i64 n) w->eu P w0 S0 E L (.int .i64 n) w (builtin .cap ⟨[t]⟩ ty cs ⟨[x].map a.eval⟩):=λn h=>.same hR (v:=.int .i64 n) (by simp[builtin,h]) (by simp[VR])
 simp only[dl]at hl;split at hl
 .rename_i e hd;cases hl;simp only[ak]at he;split at he<;>try cases he
  all_goals rename_i h1;have hv:=ai hx' h1 hT;simp only[VR]at hv
  exact run _ (by simp[Builtin.cap_,run_underlying hd,hv,goInt]);obtain⟨_,_,hv,_,hk,_⟩:=hv;exact run _ (by simp[Builtin.cap_,run_underlying hd,hv,goInt,hk _ rfl]);obtain⟨_,_,_,_,hv,_,_,hk,_⟩:=hv;exact run _ (by simp[Builtin.cap_,run_underlying hd,hv,goInt,hk _ rfl])
 rename_i n e hd;cases hl;simp only[ak,evX,alL,als,alE]at he;obtain⟨rfl,rfl,rfl⟩:=he;exact run _ (by simp[Builtin.cap_,run_underlying hd,goInt]);cases hl
theorem Zr{own:Nat}{b:Builtin}{ts:List TypeId}{xs:List Operand}{ys:List Opd}{ty:TypeId}{cs:Array Bool}{lo:LOp}{c:Prop}{av:AV}{L':List Blk}(hR:Rel w0 S0 E L w)(hT:TR E T a)(hx:qb xs=some ys)(hl:dl P own b ts ys=some lo)(he:ak T L lo=some (c,av,L'))(hc:c)(hdel:b=.delete->eu P w0 S0 E L' av w (builtin b ⟨ts⟩ ty cs ⟨xs.map a.eval⟩)):eu P w0 S0 E L' av w (builtin b ⟨ts⟩ ty cs ⟨xs.map a.eval⟩):=by
 have hl0:=hl;unfold dl at hl;split at hl;exact ah0 hR hT hx hl0 he;exact ah2 hR hT hx hl0 he;rename_i t t' y z;obtain⟨u,v,rfl,hu,hv⟩:=aaH hx;have key:∀e s by' zz,P.underlying t=some (.slice e)->((∃e',P.underlying t'=some (.slice e'))\/P.underlying t'=some .string)->cR P e=some s->Wq P e=some by'->zOf P e=some zz->zz.length=s->lo=.app own s by' zz y z ->
   eu P w0 S0 E L' av w (builtin .append ⟨[t,t']⟩ ty cs ⟨[u,v].map a.eval⟩):=λe s by' zz h1 h2 h3 h4 h5 h6 hlo=>by
  subst hlo;simp only[ak]at he;split at he<;>try cases he
  rename_i p q h7 h8;exact(agC hR h1 h2 h3 h4 h5 h6 (ai hu h7 hT) (ai hv h8 hT) he hc).done
 split at hl;rename_i e e' h1 h2;split at hl<;>try cases hl
 rename_i s by' zz h3 h4 h5;split at hl<;>try cases hl
 rename_i h6;exact key e s by' zz h1 (.inl ⟨_,h2⟩) h3 h4 h5 h6 rfl;rename_i e h1 h2;split at hl<;>try cases hl
 rename_i s by' zz h3 h4 h5;split at hl<;>try cases hl
 rename_i h6;exact key e s by' zz h1 (.inr h2) h3 h4 h5 h6 rfl;rename_i e q h1 h2;split at hl<;>try cases hl
 rename_i s by' zz h3 h4 h5;split at hl<;>try cases hl
 rename_i h6;simp only[ak]at he;split at he<;>try cases he
 rename_i i off m cp s2 q2 k h7 h8;split at he<;>try cases he
 rename_i l hL;split at he<;>try cases he
 rename_i hss;subst hss;exact(aec hR h1 h2 h3 h4 h5 h6 (ai hu h7 hT) (ai hv h8 hT) hL hc).done;cases hl;rename_i t t' y z;obtain⟨u,v,rfl,hu,hv⟩:=aaH hx;split at hl<;>try cases hl
 rename_i e hd;rcases hs:cR P e with _|s;simp[hs]at hl;simp only[hs,alL,als]at hl;subst hl;simp only[ak]at he;rcases h8:evX T z with _|q;simp only[h8,Option.bind_none]at he;split at he<;>simp_all;simp only[h8,amE]at he;split at he;rename_i c' new n h7 h9;simp only[als,alE]at he;obtain⟨rfl,rfl,rfl⟩:=he;exact((XS hR hd hs (ai hu h7 hT) (ai hv h8 hT) h9 hc).1 rfl).done;rename_i i off m cap s' c' new n h7 h9;split at he<;>try cases he
 rename_i l hL;split at he<;>try cases he
 rename_i hss;subst hss;exact((XS hR hd hs (ai hu h7 hT) (ai hv h8 hT) h9 hc.1).2 _ _ _ _ _ rfl hL hc.2.1 hc.2.2).done;cases he;rename_i t y;obtain⟨u,rfl,hu⟩:=ahf hx;split at hl<;>try cases hl
 rename_i e hd;split at hl<;>try cases hl
 rename_i s zz h3 h5;split at hl<;>try cases hl
 rename_i h6;simp only[ak]at he;split at he<;>try cases he
 rename_i h7;exact((VL hR hd h3 h5 h6 (ai hu h7 hT)).1 rfl).done;rename_i i off m cap s' h7;split at he<;>try cases he
 rename_i l hL;split at he<;>try cases he
 rename_i hss;subst hss;exact((VL hR hd h3 h5 h6 (ai hu h7 hT)).2 _ _ _ _ _ rfl hL hc).done;exact hdel rfl;rename_i y z;obtain⟨u,v,rfl,hu,hv⟩:=aaH hx;cases hl;simp only[ak]at he;split at he<;>try cases he
 rename_i k m k' n h7 h8;have e1:=ai hu h7 hT;have e2:=ai hv h8 hT;simp only[VR]at e1 e2;refine .same hR (v:=.int k (if n>m then n else m)) ?_ (by simp[VR]);simp[builtin,Builtin.max_,Builtin.max2,e1,e2];rename_i y z;obtain⟨u,v,rfl,hu,hv⟩:=aaH hx;cases hl;simp only[ak]at he;split at he<;>try cases he
 rename_i k m k' n h7 h8;have e1:=ai hu h7 hT;have e2:=ai hv h8 hT;simp only[VR]at e1 e2;refine .same hR (v:=.int k (if n<m then n else m)) ?_ (by simp[VR]);simp[builtin,Builtin.min_,Builtin.min2,e1,e2];cases hl
end
open Go Go.MapKept
section
variable {P:Program}{w0:World}{S0:SB}{E:Env}{L:List Blk}{w:World}{T:Tm}{a:Act}
def mJ.desc:mJ->TypeDesc->Prop
 |.int,d=>∃k,d=.int k
 |.str,d=>d=.string
 |.bool,d=>d=.bool
 |.st _,_=>False
def mJ.flat:mJ->Bool
 |.st _=>false
 |_=>true
theorem T7{kt:TypeId}{kd:mJ}(h:fZ P kt=some kd)(hfl:kd.flat=true):∃d,P.underlying kt=some d/\kd.desc d:=by
 unfold fZ at h;split at h<;>try simp only[als,reduceCtorEq]at h
 rename_i k hk;subst h;exact⟨_,hk,k,rfl⟩;rename_i hk;subst h;exact⟨_,hk,rfl⟩;rename_i hk;subst h;exact⟨_,hk,rfl⟩;split at h;simp only[alS]at h;obtain⟨_,_,rfl⟩:=h;cases hfl;cases h
theorem XI{kd:mJ}{d:TypeDesc}{k q:AV}{u v:Value}{b:Bool}(hd:kd.desc d)(hfl:kd.flat=true)(hf:bE kd k=true)(hk:VR E k u)(hq:VR E q v)(h:xp k q=some b):Instr.sameNow d u v=some b:=by
 cases kd<;>try (cases hfl;done)
 all_goals cases k<;>simp only[bE,alG]at hf<;>cases q<;>simp only[xp,reduceCtorEq]at h<;>simp only[VR]at hk hq<;>subst hk<;>subst hq<;>simp only[mJ.desc]at hd
 obtain⟨k,rfl⟩:=hd;split at h<;>simp only[als,reduceCtorEq]at h;rename_i e;subst e;subst h;simp only[Instr.sameNow,if_true];rfl;subst hd;simp only[als]at h;subst h;simp only[Instr.sameNow,als];rename_i a b;by_cases e:a=b;subst e;simp[bytes_beq];simp only[e,decide_false];rcases h':(({data:={toList:=a}}:ByteArray) == {data:={toList:=b}})with _|_;rfl;have:=(bytes_beq _ _).1 h';simp at this;exact absurd this e;subst hd;simp only[als]at h;subst h;simp only[Instr.sameNow,als];rename_i a b;cases a<;>cases b<;>rfl
theorem adS{kd:mJ}{kt:TypeId}{d:TypeDesc}{k:AV}{u:Value}(hu:P.underlying kt=some d)(hd:kd.desc d)(hf:bE kd k=true)(hk:VR E k u)(e:Bool)(n:Nat):(Instr.checkKey e (n+1) kt u).run P w=.ok () w:=by
 unfold Instr.checkKey;cases kd<;>try (exact hd.elim)
 all_goals cases k<;>simp only[bE,alG]at hf<;>simp only[VR]at hk<;>subst hk<;>simp only[mJ.desc]at hd
 obtain⟨k,rfl⟩:=hd;simp[alz,run_underlying hu,Result.andThen];subst hd;simp[alz,run_underlying hu,Result.andThen];subst hd;simp[alz,run_underlying hu,Result.andThen]
theorem agd{kd:mJ}{k q:AV}{u v:Value}(hfl:kd.flat=true)(hf:bE kd k=true)(hk:VR E k u)(hq:VR E q v)(h:xp k q=some true)(n:Nat):Instr.sameBits n v u=true:=by
 cases kd<;>try (cases hfl;done)
 all_goals cases k<;>simp only[bE,alG]at hf<;>cases q<;>simp only[xp,reduceCtorEq]at h<;>simp only[VR]at hk hq<;>subst hk<;>subst hq
 split at h<;>simp only[als,reduceCtorEq,decide_eq_true_eq]at h;rename_i e;subst e;subst h;simp[Instr.sameBits];simp only[als,decide_eq_true_eq]at h;subst h;simp[Instr.sameBits,bytes_beq];simp only[als,decide_eq_true_eq]at h;subst h;simp[Instr.sameBits]
theorem Vw{kd:mJ}{d:TypeDesc}{k:AV}{u:Value}(hd:kd.desc d)(hfl:kd.flat=true)(hf:bE kd k=true)(hk:VR E k u):∀{es:List (AV×AV×Nat)}{rs:List MapEntry}{i:Nat}{r:Option (Nat×AV)},ay E es rs->eI k es i=some r ->
  match r with
  |none=>Instr.findNow d u rs i=some none
  |some (j,x)=>∃j0 e q b,j=i+j0/\Instr.findNow d u rs i=some (some (i+j0,e.val))/\rs[j0]?=some e/\es[j0]?=some (q,x,b)/\VR E x e.val/\VR E q e.key/\xp k q=some true
 |[],rs,i,r,hm,h=>by simp only[ay]at hm;subst hm;simp only[eI,als]at h;subst h;rfl
 | (q,x,b)::l,rs,i,r,hm,h=>by
   simp only[ay]at hm;obtain⟨e,t,rfl,h1,h2,h3,h4⟩:=hm;simp only[eI]at h;split at h
   .rename_i hq;simp only[als]at h;subst h;have:=XI hd hfl hf hk h1 hq;exact⟨0,e,q,b,rfl,by simp[Instr.findNow,this],rfl,rfl,h2,h1,hq⟩
   .rename_i hq;have h0:=XI hd hfl hf hk h1 hq;have ih:=Vw hd hfl hf hk h4 h;cases r with
    |none=>simp only at ih⊢;simp[Instr.findNow,h0,ih]
    | some p =>
      obtain⟨j,y⟩:=p;obtain⟨j0,e',q',b',rfl,g1,g2,g3,g4⟩:=ih;exact⟨j0+1,e',q',b',aoJ,by simp[Instr.findNow,h0,g1];omega,by simpa using g2,by simpa using g3,g4⟩
   .cases h
theorem aiU{t:TypeId}{k:yB}(h:abp P t=some k)(e:Bool)(n:Nat)(v:Value)(w:World):(Instr.checkKey e (n+1) t v).run P w=.ok () w:=by unfold Instr.checkKey;rcases SM h with⟨_,q,hu⟩|⟨_,hu⟩|⟨_,hu⟩<;>simp[alz,run_underlying hu,Result.andThen]
theorem aha{kt:TypeId}{ks:List yB}{fs:Array Field}{cs:Array Value}(hu:P.underlying kt=some (.struct fs))(hf:KM P 0 fs.toList ks)(hc:ks.length<=cs.size)(e:Bool)(n:Nat)(w:World):
  (Instr.checkKey e (n+2) kt (.agg cs)).run P w=.ok () w:=by
 have key:∀ (l:List Field) (ks:List yB) (i:Nat),KM P i l ks->i+ks.length<=cs.size->∀ (body:Field->PUnit->Sem (ForInStep PUnit)),(∀ f u,body f u=if f.name ≠ "_" then (do let x <- part f.type cs f.offset;Instr.checkKey e (n+1) f.type x;pure (ForInStep.yield PUnit.unit)) else pure (ForInStep.yield PUnit.unit))->(forIn l PUnit.unit body).run P w=.ok PUnit.unit w:=by
  intro l;induction l with
  |nil=>intro ks i _ _ body _;simp
  | cons f l ih =>
    intro ks i h hs body hb;cases ks with
    |nil=>simp[KM]at h
    | cons k ks =>
      obtain⟨h1,h2,h3,h4⟩:=h;simp only[alA]at hs;obtain⟨v,hv⟩:∃v,cs[i]?=some v:=⟨_,amb aoJ⟩;rw[List.forIn_cons,hb,if_pos h2,h1];simp only[alz,abd h3 hv,aiU h3,alB,alV];exact ih ks (i+1) h4 aoJ body hb
 unfold Instr.checkKey;simp only[alz,run_underlying hu,alB];rw[<- Array.forIn_toList];have:=key fs.toList ks 0 hf aoJ _ (λf u=>rfl)
 first
  |exact this
  |(refine(congrArg (λr=>Result.andThen r _) this).trans ?_;rfl)
  |(simp only[alz,this,alB];rfl)
theorem Uh{kt:TypeId}{ks:List yB}{fs:Array Field}(hu:P.underlying kt=some (.struct fs))(hs:P.stoodInHeld kt=false)(hf:KM P 0 fs.toList ks){l:List AV}{u:Value}(hp:rS ks l=true)(hk:VR E (.agg l) u)(w:World):∀{es:List (AV×AV×Nat)}{rs:List MapEntry}{i:Nat}{r:Option (Nat×AV)},ay E es rs->eI (.agg l) es i=some r ->
  match r with
  |none=>(Instr.findAsking kt u rs i).run P w=.ok none w
  |some (j,x)=>∃j0 e q b,j=i+j0/\(Instr.findAsking kt u rs i).run P w=.ok (some (i+j0,e.val)) w/\rs[j0]?=some e/\es[j0]?=some (q,x,b)/\VR E x e.val/\VR E q e.key/\xp (.agg l) q=some true
 |[],rs,i,r,hm,h=>by simp only[ay]at hm;subst hm;simp only[eI,als]at h;subst h;simp[Instr.findAsking]
 | (q,x,b)::es,rs,i,r,hm,h=>by
   simp only[ay]at hm;obtain⟨e,t,rfl,h1,h2,h3,h4⟩:=hm;simp only[eI]at h;split at h
   .rename_i hq;simp only[als]at h;subst h;have:=VU hu hs hf hp hk h1 hq w;exact⟨0,e,q,b,rfl,by simp[Instr.findAsking,this],rfl,rfl,h2,h1,hq⟩
   .rename_i hq;have h0:=VU hu hs hf hp hk h1 hq w;have ih:=Uh hu hs hf hp hk w h4 h;cases r with
    |none=>simp only at ih⊢;simp[Instr.findAsking,h0,ih]
    | some p =>
      obtain⟨j,y⟩:=p;obtain⟨j0,e',q',b',rfl,g1,g2,g3,g4⟩:=ih;exact⟨j0+1,e',q',b',aoJ,by simp[Instr.findAsking,h0,g1];omega,by simpa using g2,by simpa using g3,g4⟩
   .cases h
theorem ahe:∀{l m:List AV}{us vs:List Value}{ks:List yB}(n:Nat),rS ks l=true->VRL E l us->VRL E m vs->xo l m=some true->us.length=vs.length/\((vs.zip us).all λ(x,y)=>Instr.sameBits n x y)=true
 | [],m,us,vs,ks,n,hp,hl,hm,hq=>by
   cases m with
   |cons b m=>simp[xo]at hq
   |nil=>simp only[VRL]at hl hm;subst hl;subst hm;simp
 | a::l,m,us,vs,ks,n,hp,hl,hm,hq=>by
   cases m with
   |nil=>simp[xo]at hq
   | cons b m =>
     cases ks with
     |nil=>simp[rS]at hp
     | cons k ks =>
       simp only[rS,alx]at hp;simp only[VRL]at hl hm;obtain⟨u,us',rfl,hu,hus⟩:=hl;obtain⟨v,vs',rfl,hv,hvs⟩:=hm;simp only[xo]at hq;cases hk:T9 a b with
       |none=>rw[hk]at hq;cases hq
       | some c =>
         rw[hk]at hq;cases c with
         |false=>simp at hq
         | true =>
           obtain⟨i1,i2⟩:=ahe n hp.2 hus hvs hq;refine⟨by simp[i1],?_⟩;simp only[List.zip_cons_cons,am6,i2,anD];cases a<;>cases b<;>simp only[T9,reduceCtorEq]at hk<;>simp only[VR]at hu hv<;>subst hu<;>subst hv
           .simp only[als,decide_eq_true_eq]at hk;subst hk;simp[Instr.sameBits]
           .split at hk<;>simp only[als,reduceCtorEq,decide_eq_true_eq]at hk;rename_i e;subst e;subst hk;simp[Instr.sameBits]
           .simp only[als,decide_eq_true_eq]at hk;subst hk;simp[Instr.sameBits,bytes_beq]
theorem rX{kd:mJ}{kt:TypeId}{k:AV}{u:Value}(hkd:fZ P kt=some kd)(hf:bE kd k=true)(hk:VR E k u)(e:Bool):(Instr.checkKey e 10000 kt u).run P w=.ok () w:=by
 cases hfl:kd.flat with
 | true =>
   obtain⟨d,h1,h2⟩:=T7 hkd hfl;exact adS h1 h2 hf hk e 9999
 | false =>
   cases kd<;>simp only[mJ.flat,reduceCtorEq]at hfl;obtain⟨fs,h1,h2,h3⟩:=SN hkd;cases k<;>simp only[bE,alG]at hf;simp only[VR]at hk;obtain⟨us,rfl,hus⟩:=hk;exact aha h1 h3 (by rw[Xq hf];simp[hus.length]) e 9998 w
theorem adT{kd:mJ}{k q:AV}{u v:Value}(hf:bE kd k=true)(hk:VR E k u)(hq:VR E q v)(h:xp k q=some true):Instr.sameBits 10000 v u=true:=by
 cases hfl:kd.flat with
 |true=>exact agd hfl hf hk hq h 10000
 | false =>
   cases kd<;>simp only[mJ.flat,reduceCtorEq]at hfl;cases k<;>simp only[bE,alG]at hf;cases q<;>simp only[xp,reduceCtorEq]at h;simp only[VR]at hk hq;obtain⟨us,rfl,hus⟩:=hk;obtain⟨vs,rfl,hvs⟩:=hq;obtain⟨i1,i2⟩:=ahe 9999 hf hus hvs h;show Instr.sameBits (9999+1) (.agg ⟨vs⟩) (.agg ⟨us⟩)=true;simp only[Instr.sameBits,i2,anD];simp[i1]
theorem K8{kd:mJ}{kt:TypeId}{k:AV}{u:Value}(hkd:fZ P kt=some kd)(hf:bE kd k=true)(hk:VR E k u){es:List (AV×AV×Nat)}{rs:List MapEntry}{r:Option (Nat×AV)}(hm:ay E es rs)(h:eI k es 0=some r)(w:World):
  match r with
  |none=>(Instr.findKey kt u rs).run P w=.ok none w
  |some (j,x)=>∃e q b,(Instr.findKey kt u rs).run P w=.ok (some (j,e.val)) w/\rs[j]?=some e/\es[j]?=some (q,x,b)/\VR E x e.val/\VR E q e.key/\xp k q=some true:=by
 cases hfl:kd.flat with
 | true =>
   obtain⟨d,h1,h2⟩:=T7 hkd hfl;have hs:=Vw h2 hfl hf hk hm h;cases r with
   |none=>exact run_findKey h1 hs
   | some p =>
     obtain⟨j,x⟩:=p;obtain⟨j0,e,q,b,rfl,g1,g2,g3,g4⟩:=hs;exact⟨e,q,b,by have:=run_findKey (P:=P) (w:=w) h1 g1;exact this,by simpa using g2,by simpa using g3,g4⟩
 | false =>
   cases kd<;>simp only[mJ.flat,reduceCtorEq]at hfl;obtain⟨fs,h1,h2,h3⟩:=SN hkd;cases k<;>simp only[bE,alG]at hf;have hs:=Uh h1 h2 h3 hf hk w hm h;have hfk:(Instr.findKey kt u rs).run P w=(Instr.findAsking kt u rs 0).run P w:=by
    simp only[Instr.findKey,alz,run_underlying h1,alB];cases rs with
    |nil=>simp[Instr.findNow,Instr.findAsking]
    |cons e rs=>simp[Instr.findNow,Instr.sameNow]
   rw[hfk];cases r with
   |none=>exact hs
   | some p =>
     obtain⟨j,x⟩:=p;obtain⟨j0,e,q,b,rfl,g1,g2,g3,g4⟩:=hs;exact⟨e,q,b,g1,by simpa using g2,by simpa using g3,g4⟩
theorem abN{t kt et:TypeId}(hR:Rel w0 S0 E L w)(hd:P.underlying t=some (.map kt et)):cX P w0 S0 E (L++[.map [] 0]) (.lmap L.length) w (Instr.makeMap t none):=by have:=hR.push (.map #[] 0) (.map [] 0) ⟨w.heap.size,0,0⟩ rfl rfl ⟨⟨w.heap.size,0,0⟩,#[],aoK,aoK,rfl⟩;refine⟨_,.map (some w.heap.size),_,?_,this.1,?_,this.2⟩;simp[Instr.makeMap];simp only[VR];exact⟨⟨w.heap.size,0,0⟩,aoK,rfl⟩
theorem Ze{t:TypeId}{a:AV}(h:aeS P t=some a):∃v,(∀w,(zeroValue t).run P w=.ok v w)/\VR E a v:=by unfold aeS at h;simp only[ani]at h;obtain⟨v,⟨i,h1,h2⟩,h3⟩:=h;exact⟨v,λw=>by simp[zeroValue,typeInfo,h1,h2],Vx h3⟩
theorem K5(hR:Rel w0 S0 E L w){i:Nat}{es:List (AV×AV×Nat)}{ck:Nat}{u:Value}(hi:L[i]?=some (.map es ck))(hv:VR E (.lmap i) u):
  ∃c rs,E.loc i=some c/\u=.map (some c.blk)/\w.heap[c.blk]?=some (.map rs ck)/\ay E es rs.toList:=by
 simp only[VR]at hv;obtain⟨c,hc,rfl⟩:=hv;obtain⟨c',rs,h1,h2,h3⟩:=hR.blk i _ hi;rw[hc]at h1;cases h1;exact⟨c,rs,hc,rfl,h2,h3⟩
theorem abO{t kt et:TypeId}{kd:mJ}{z k:AV}{u v:Value}(ok:Bool)(hR:Rel w0 S0 E L w)(hd:P.underlying t=some (.map kt et))(hkd:fZ P kt=some kd)(hz:aeS P et=some z)(hu:VR E .nilmap u)(hf:bE kd k=true)(hk:VR E k v):
  cX P w0 S0 E L (if ok then .tup [z,.bool false]else z) w (Instr.lookup t u v ok):=by
 simp only[VR]at hu;subst hu;obtain⟨zv,h3,h4⟩:=Ze (E:=E) hz;have hc:∀e,(Instr.checkKey e 10000 kt v).run P w=.ok () w:=λe=>rX hkd hf hk e
 have hfk:(Instr.findKey kt v []).run P w=.ok none w:=K8 (E:=E) (es:=[]) (r:=none) hkd hf hk (by simp[ay]) (by simp[eI]) w;refine .same hR (v:=if ok then .tuple #[zv,.bool false]else zv) ?_ ?_
 .simp[Instr.lookup,run_underlying hd,hc,hfk,h3]
  try (cases ok<;>rfl)
 cases ok;exact h4;simp only[if_true,VR];exact⟨[zv,.bool false],rfl,by simp[VRL,VR,h4]⟩
theorem ad6{t kt et:TypeId}{kd:mJ}{z k av:AV}{u v:Value}{i ck:Nat}{es:List (AV×AV×Nat)}{r:Option (Nat×AV)}(ok:Bool)(hR:Rel w0 S0 E L w)(hd:P.underlying t=some (.map kt et))(hkd:fZ P kt=some kd)(hz:aeS P et=some z)(hi:L[i]?=some (.map es ck))(hu:VR E (.lmap i) u)(hf:bE kd k=true)(hk:VR E k v)(hm:eI k es 0=some r)(hav:av=match r with|some (_,x)=>if ok then .tup [x,.bool true]else x|none=>if ok then .tup [z,.bool false]else z):
  cX P w0 S0 E L av w (Instr.lookup t u v ok):=by
 obtain⟨c,rs,hc,rfl,hb,hmr⟩:=K5 hR hi hu;obtain⟨zv,h3,h4⟩:=Ze (E:=E) hz;have hck:∀e,(Instr.checkKey e 10000 kt v).run P w=.ok () w:=λe=>rX hkd hf hk e
 have hg:(getObj c.blk).run P w=.ok (.map rs ck) w:=by simp[getObj,Sem.run,hb]
 have hs:=K8 hkd hf hk hmr hm w;cases r with
 | none =>
   subst hav;have hfk:(Instr.findKey kt v rs.toList).run P w=.ok none w:=hs;refine .same hR (v:=if ok then .tuple #[zv,.bool false]else zv) ?_ ?_
   .simp[Instr.lookup,run_underlying hd,hg,hck,hfk,h3]
    try (cases ok<;>rfl)
   .cases ok
    .exact h4
    .simp only[if_true,VR];exact⟨[zv,.bool false],rfl,by simp[VRL,VR,h4]⟩
 | some p =>
   obtain⟨j,x⟩:=p;subst hav;obtain⟨e,q,b,hfk,g2,g3,g4,_⟩:=hs;refine .same hR (v:=if ok then .tuple #[e.val,.bool true]else e.val) ?_ ?_
   .simp[Instr.lookup,run_underlying hd,hg,hck,hfk]
    try (cases ok<;>rfl)
   .cases ok
    .exact g4
    .simp only[if_true,VR];exact⟨[e.val,.bool true],rfl,by simp[VRL,VR,g4]⟩
theorem ay.app{es:List (AV×AV×Nat)}{k x:AV}{e:MapEntry}:∀{rs:List MapEntry},ay E es rs->VR E k e.key->VR E x e.val->ay E (es++[(k,x,e.born)]) (rs++[e]):=by
 induction es with
 |nil=>intro rs h hk hx;simp only[ay]at h;subst h;exact⟨e,[],rfl,hk,hx,rfl,rfl⟩
 | cons p es ih =>
   intro rs h hk hx;obtain⟨q,y,b⟩:=p;obtain⟨f,t,rfl,g1,g2,g3,g4⟩:=h;exact⟨f,t++[e],rfl,g1,g2,g3,ih g4 hk hx⟩
theorem ay.put{k x:AV}{u v:Value}(hk:VR E k u)(hx:VR E x v):∀{es:List (AV×AV×Nat)}{rs:List MapEntry}{j:Nat},ay E es rs->ay E (Yw k x es j) (rs.modify j λe=>{e with key:=u,val:=v})
 |[],rs,j,h=>by simp only[ay]at h;subst h;simp[Yw,ay]
 |(q,y,b)::es,rs,0,h=>by obtain⟨f,t,rfl,g1,g2,g3,g4⟩:=h;exact⟨{f with key:=u,val:=v},t,rfl,hk,hx,g3,g4⟩
 |(q,y,b)::es,rs,j+1,h=>by obtain⟨f,t,rfl,g1,g2,g3,g4⟩:=h;exact⟨f,t.modify j λe=>{e with key:=u,val:=v},aoK,g1,g2,g3,ay.put hk hx (j:=j) g4⟩
theorem ad5{t kt et:TypeId}{kd:mJ}{k x:AV}{u v y:Value}{i ck:Nat}{es:List (AV×AV×Nat)}{r:Option (Nat×AV)}(hR:Rel w0 S0 E L w)(hd:P.underlying t=some (.map kt et))(hkd:fZ P kt=some kd)(hi:L[i]?=some (.map es ck))(hu:VR E (.lmap i) u)(hf:bE kd k=true)(hk:VR E k v)(hx:VR E x y)(hm:eI k es 0=some r):∃w',(Instr.mapUpdate t u v y).run P w=.ok () w'/\Rel w0 S0 E (L.set i (match r with|some (j,_)=>.map (Yw k x es j) ck|none=>.map (es++[(k,x,ck)]) (ck+1))) w':=by
 obtain⟨c,rs,hc,rfl,hb,hmr⟩:=K5 hR hi hu;have hck:∀e,(Instr.checkKey e 10000 kt v).run P w=.ok () w:=λe=>rX hkd hf hk e
 have hg:(getObj c.blk).run P w=.ok (.map rs ck) w:=by simp[getObj,Sem.run,hb]
 have hs:=K8 hkd hf hk hmr hm w;have hlt:c.blk<w.heap.size:=(amt.1 hb).1;have hso:∀o,(setObj c.blk o).run P w=.ok () {w with heap:=w.heap.setIfInBounds c.blk o}:=λo=>by simp[setObj,Sem.run,hb]
 have turn:∀rs' ck' es',ay E es' (rs':Array MapEntry).toList->Rel w0 S0 E (L.set i (.map es' ck')) {w with heap:=w.heap.setIfInBounds c.blk (.map rs' ck')}:=λrs' ck' es' hm' =>
  hR.turn (w':={w with heap:=w.heap.setIfInBounds c.blk (.map rs' ck')}) (k':=.map es' ck') hi rfl hc aoK (λb hb=>by simp[anU,Ne.symm hb]) rfl rfl rfl
   ⟨c,rs',hc,by simp[hlt],hm'⟩ (λ_ _ e=>by cases e)
 cases r with
 | none =>
   have hfk:(Instr.findKey kt v rs.toList).run P w=.ok none w:=hs;refine⟨_,?_,turn (rs.push {key:=v,val:=y,born:=ck}) (ck+1) _ (by simpa using ay.app (e:={key:=v,val:=y,born:=ck}) hmr hk hx)⟩;simp[Instr.mapUpdate,run_underlying hd,hg,hck,hfk,hso]
 | some p =>
   obtain⟨j,z⟩:=p;obtain⟨e,q,b,hfk,g2,g3,g4,g5,g6⟩:=hs;have hst:(Instr.keyThatStays e.key v).run P w=.ok v w:=by simp[Instr.keyThatStays,adT hf hk g5 g6]
   have hget:rs[j]?=some e:=(by simpa using g2);refine⟨_,?_,turn (rs.modify j λe=>{e with key:=v,val:=y}) ck _ (by simpa using ay.put hk hx (j:=j) hmr)⟩;simp[Instr.mapUpdate,run_underlying hd,hg,hck,hfk,hget,hst,hso]
end
open Go Go.MapKept
section
variable {P:Program}{w0:World}{S0:SB}{E:Env}{L:List Blk}{w:World}{T:Tm}{a:Act}
theorem ay.filt{p:Nat->Bool}:∀{es:List (AV×AV×Nat)}{rs:List MapEntry},ay E es rs->ay E (es.filter λe=>p e.2.2) (rs.filter λe=>p e.born)
 |[],rs,h=>by simp only[ay]at h;subst h;rfl
 | (k,x,b)::es,rs,h=>by
   obtain⟨f,t,rfl,g1,g2,g3,g4⟩:=h;have ih:=ay.filt (p:=p) g4;subst g3;simp only[anE];split
   .exact⟨f,_,rfl,g1,g2,rfl,ih⟩
   .exact ih
theorem ay.all{p:Nat->Bool}:∀{es:List (AV×AV×Nat)}{rs:List MapEntry},ay E es rs->(rs.all λe=>p e.born)=es.all λe=>p e.2.2
 |[],rs,h=>by simp only[ay]at h;subst h;rfl
 |(k,x,b)::es,rs,h=>by obtain⟨f,t,rfl,g1,g2,g3,g4⟩:=h;subst g3;simp only[am6,ay.all (p:=p) g4]
theorem ay.nil_iff{es:List (AV×AV×Nat)}{rs:List MapEntry}(h:ay E es rs):rs.isEmpty=es.isEmpty:=by
 cases es with
 |nil=>simp only[ay]at h;subst h;rfl
 |cons p es=>obtain⟨k,x,b⟩:=p;obtain⟨f,t,rfl,_⟩:=h;rfl
theorem ay.len:∀{es:List (AV×AV×Nat)}{rs:List MapEntry},ay E es rs->rs.length=es.length
 |[],rs,h=>by simp only[ay]at h;subst h;rfl
 |(k,x,b)::es,rs,h=>by obtain⟨f,t,rfl,_,_,_,g4⟩:=h;simp[ay.len g4]
theorem YJ{t kt et:TypeId}{v:Value}(hR:Rel w0 S0 E L w)(hd:P.underlying t=some (.map kt et))(hv:VR E .nilmap v):
  cX P w0 S0 E (L++[.miter none 0 [] 0]) (.ptr L.length 0) w (Instr.range t v):=by
 simp only[VR]at hv;subst hv;have:=hR.push (.mapIter none 0 #[] 0) (.miter none 0 [] 0) ⟨w.heap.size,0,0⟩ rfl rfl ⟨⟨w.heap.size,0,0⟩,none,aoK,aoK,rfl,rfl⟩;refine⟨_,.pointer (some ⟨w.heap.size,0,none⟩),_,?_,this.1,?_,this.2⟩;simp[Instr.range,run_underlying hd];simp only[VR];exact⟨⟨w.heap.size,0,0⟩,aoK,rfl⟩
theorem aae{t kt et:TypeId}{v:Value}{i ck:Nat}{es:List (AV×AV×Nat)}(hR:Rel w0 S0 E L w)(hd:P.underlying t=some (.map kt et))(hi:L[i]?=some (.map es ck))(hv:VR E (.lmap i) v):
  cX P w0 S0 E (L++[.miter (some i) ck [] ck]) (.ptr L.length 0) w (Instr.range t v):=by
 obtain⟨c,rs,hc,rfl,hb,hmr⟩:=K5 hR hi hv;have hlt:i<L.length:=(alq.1 hi).1;have:=hR.push (.mapIter (some c.blk) ck #[] ck) (.miter (some i) ck [] ck) ⟨w.heap.size,0,0⟩ rfl rfl ⟨⟨w.heap.size,0,0⟩,some c.blk,aoK,aoK,rfl,c,by simp only;rw[if_neg aoJ];exact hc,rfl⟩;refine⟨_,.pointer (some ⟨w.heap.size,0,none⟩),_,?_,this.1,?_,this.2⟩;have hg:(getObj c.blk).run P w=.ok (.map rs ck) w:=by simp[getObj,Sem.run,hb]
 simp[Instr.range,run_underlying hd,hg];simp only[VR];exact⟨⟨w.heap.size,0,0⟩,aoK,rfl⟩
theorem abM{t:TypeId}{v:Value}{i j ck since last:Nat}{seen:List Nat}{es:List (AV×AV×Nat)}{r:Option (AV×AV×Nat)}(hR:Rel w0 S0 E L w)(hi:L[i]?=some (.miter (some j) since seen last))(hj:L[j]?=some (.map es ck))(hv:VR E (.ptr i 0) v)(hs:afX es since seen last=some r):
  cX P w0 S0 E (Xz L i j since seen ck r) (O8 r) w (Instr.next v false t):=by
 simp only[VR]at hv;obtain⟨c,hc,rfl⟩:=hv;obtain⟨c',q,h1,h2,h3,d,h4,rfl⟩:=hR.blk i _ hi;rw[hc]at h1;cases h1;obtain⟨d',rs,g1,g2,g3⟩:=hR.blk j _ hj;rw[h4]at g1;cases g1;have hlt:c.blk<w.heap.size:=(amt.1 h2).1;have hg:(getObj c.blk).run P w=.ok (.mapIter (some d.blk) since ⟨seen⟩ last) w:=by simp[getObj,Sem.run,h2]
 have hg2:(getObj d.blk).run P w=.ok (.map rs ck) w:=by simp[getObj,Sem.run,g2]
 have hso:∀o,(setObj c.blk o).run P w=.ok () {w with heap:=w.heap.setIfInBounds c.blk o}:=λo=>by simp[setObj,Sem.run,h2]
 rw[h3];unfold afX at hs;split at hs;cases hs;rename_i hguard;have hguard':(!(⟨seen⟩:Array Nat).isEmpty && !rs.isEmpty&&rs.all λe=>decide (e.born≥last))=false:=by
  rw[am1]at hguard;rw[<- hguard];have e1:(⟨seen⟩:Array Nat).isEmpty=seen.isEmpty:=(by cases seen<;>rfl);have e2:rs.isEmpty=es.isEmpty:=(by rw[<- g3.nil_iff];simp);have e3:(rs.all λe=>decide (e.born≥last))=es.all λe=>decide (last<=e.2.2):=by rw[<- ay.all (p:=λb=>decide (last<=b)) g3];simp
  rw[e1,e2,e3]
 have hleft:=ay.filt (p:=λb => !seen.contains b) g3;have hold:=ay.filt (p:=λb=>decide (b<since)) hleft;have hnew:=ay.filt (p:=λb=>decide (since<=b)) hleft;have fl:∀p:MapEntry->Bool,(rs.filter λe => !(⟨seen⟩:Array Nat).contains e.born).filter p=⟨(rs.toList.filter λe => !seen.contains e.born).filter p⟩:=λp=>by apply Array.toList_inj.1;simp
 split at hs;rename_i ho hn;simp only[als]at hs;subst hs;rw[ho]at hold;rw[hn]at hnew;simp only[ay]at hold hnew;refine .same hR (v:=.tuple #[.bool false]) ?_ (by simp[O8,VR,VRL]);have hold':((rs.filter λe => !(⟨seen⟩:Array Nat).contains e.born).filter λe=>decide (e.born<since))=#[]:=by rw[fl,hold]
 have hnew':((rs.filter λe => !(⟨seen⟩:Array Nat).contains e.born).filter λe=>decide (e.born≥since))=#[]:=by rw[fl];exact congrArg Array.mk hnew
 simp only[Instr.next,alz,hg,hg2,alB,hguard',alG,if_false,hold',hnew'];simp[Question.forced];rename_i e ho hn;simp only[als]at hs;subst hs;rw[ho]at hold;rw[hn]at hnew;obtain⟨k,x,b⟩:=e;simp only[ay]at hold hnew;obtain⟨f,s,hf,k1,k2,k3,rfl⟩:=hold;subst k3;have hold':((rs.filter λe => !(⟨seen⟩:Array Nat).contains e.born).filter λe=>decide (e.born<since))=#[f]:=by rw[fl,hf]
 have hnew':((rs.filter λe => !(⟨seen⟩:Array Nat).contains e.born).filter λe=>decide (e.born≥since))=#[]:=by rw[fl];exact congrArg Array.mk hnew
 have turn:=hR.turn (w':={w with heap:=w.heap.setIfInBounds c.blk (.mapIter (some d.blk) since ((⟨seen⟩:Array Nat).push f.born) ck)}) (k':=.miter (some j) since (seen++[f.born]) ck) hi rfl hc aoK (λb hb=>by simp[anU,Ne.symm hb]) rfl rfl rfl
  ⟨c,some d.blk,hc,by simp[hlt],h3,d,h4,rfl⟩ (λ_ _ e=>by cases e)
 refine⟨E,.tuple #[.bool true,f.key,f.val],_,?_,.refl E,?_,turn⟩;simp only[Instr.next,alz,hg,hg2,alB,hguard',alG,if_false,hold',hnew'];simp[Question.forced,hso];simp only[O8,VR,VRL];exact⟨[.bool true,f.key,f.val],rfl,.bool true,[f.key,f.val],rfl,rfl,f.key,[f.val],rfl,k1,f.val,[],rfl,k2,rfl⟩;cases hs
theorem aaf{t:TypeId}{v:Value}{i since last:Nat}{seen:List Nat}(hR:Rel w0 S0 E L w)(hi:L[i]?=some (.miter none since seen last))(hv:VR E (.ptr i 0) v):
  cX P w0 S0 E L (.tup [.bool false]) w (Instr.next v false t):=by
 simp only[VR]at hv;obtain⟨c,hc,rfl⟩:=hv;obtain⟨c',q,h1,h2,h3,h4⟩:=hR.blk i _ hi;rw[hc]at h1;cases h1;simp only[MIt]at h4;subst h4;have hg:(getObj c.blk).run P w=.ok (.mapIter none since ⟨seen⟩ last) w:=by simp[getObj,Sem.run,h2]
 rw[h3];exact .same hR (v:=.tuple #[.bool false]) (by simp[Instr.next,hg]) (by simp[VR,VRL])
theorem ay.fnd{b:Nat}:∀{es:List (AV×AV×Nat)}{rs:List MapEntry}{e:AV×AV×Nat},ay E es rs->es.find? (λe=>Nat.beq e.2.2 b)=some e->∃f,rs.find? (λe=>e.born == b)=some f/\VR E e.1 f.key/\VR E e.2.1 f.val
 |[],rs,e,h,he=>by simp at he
 | (k,x,c)::es,rs,e,h,he=>by
   obtain⟨f,t,rfl,g1,g2,g3,g4⟩:=h;subst g3;simp only[amF]at he⊢;have e1:(f.born == b)=Nat.beq f.born b:=by
    cases hh:Nat.beq f.born b with
    |true=>rw[aou hh];simp
    | false =>
      have:f.born≠b:=λe=>by rw[e,Nat.beq_refl]at hh;cases hh
      simpa using this
   rw[e1];split at he
   .rename_i hb;simp only[als]at he;subst he;exact⟨f,rfl,g1,g2⟩
   .rename_i hb;exact ay.fnd g4 he
theorem aag{v:Value}{i j ck since stepped:Nat}{seen:List Nat}{es:List (AV×AV×Nat)}{e:AV×AV×Nat}(hR:Rel w0 S0 E L w)(hi:L[i]?=some (.miter (some j) since seen stepped))(hj:L[j]?=some (.map es ck))(hv:VR E (.ptr i 0) v)(hs:mat es ck seen stepped=some e):cX P w0 S0 E L (.tup [e.1,e.2.1]) w (Instr.entry v):=by
 simp only[VR]at hv;obtain⟨c,hc,rfl⟩:=hv;obtain⟨c',q,h1,h2,h3,d,h4,rfl⟩:=hR.blk i _ hi;rw[hc]at h1;cases h1;obtain⟨d',rs,g1,g2,g3⟩:=hR.blk j _ hj;rw[h4]at g1;cases g1;have hg:(getObj c.blk).run P w=.ok (.mapIter (some d.blk) since ⟨seen⟩ stepped) w:=by simp[getObj,Sem.run,h2]
 have hg2:(getObj d.blk).run P w=.ok (.map rs ck) w:=by simp[getObj,Sem.run,g2]
 unfold mat at hs;split at hs;rename_i b hb;split at hs;rename_i hck;obtain⟨f,k1,k2,k3⟩:=ay.fnd g3 hs;have hback:(⟨seen⟩:Array Nat).back?=some b:=by rw[List.getLast?_eq_getElem?]at hb;simpa[Array.back?]using hb
 have hf:rs.find? (λe=>e.born == b)=some f:=by rw[<- k1];simp
 rw[h3];refine .same hR (v:=.tuple #[f.key,f.val]) ?_ (by simp only[VR,VRL];exact⟨[f.key,f.val],rfl,f.key,[f.val],rfl,k2,f.val,[],rfl,k3,rfl⟩);simp[Instr.entry,hg,hg2,hback,hck,hf];cases hs;cases hs
theorem ay.del:∀{es:List (AV×AV×Nat)}{rs:List MapEntry}{j:Nat},ay E es rs->ay E (es.eraseIdx j) (rs.eraseIdx j)
 |[],rs,j,h=>by simp only[ay]at h;subst h;simp[ay]
 |(k,x,b)::es,rs,0,h=>by obtain⟨f,t,rfl,_,_,_,g4⟩:=h;simpa using g4
 |(k,x,b)::es,rs,j+1,h=>by obtain⟨f,t,rfl,g1,g2,g3,g4⟩:=h;exact⟨f,t.eraseIdx j,aoK,g1,g2,g3,ay.del g4⟩
theorem ad7{t kt et t' ty:TypeId}{kd:mJ}{k:AV}{u v:Value}{i ck:Nat}{cs:Array Bool}{es:List (AV×AV×Nat)}{r:Option (Nat×AV)}(hR:Rel w0 S0 E L w)(hd:P.underlying t=some (.map kt et))(hkd:fZ P kt=some kd)(hi:L[i]?=some (.map es ck))(hu:VR E (.lmap i) u)(hf:bE kd k=true)(hk:VR E k v)(hm:eI k es 0=some r):∃w',(builtin .delete ⟨[t,t']⟩ ty cs ⟨[u,v]⟩).run P w=.ok (.value (.tuple #[])) w'/\Rel w0 S0 E (L.set i (match r with|some (j,_)=>.map (es.eraseIdx j) ck|none=>.map es ck)) w':=by
 obtain⟨c,rs,hc,rfl,hb,hmr⟩:=K5 hR hi hu;have hck:∀e,(Instr.checkKey e 10000 kt v).run P w=.ok () w:=λe=>rX hkd hf hk e
 have hg:(getObj c.blk).run P w=.ok (.map rs ck) w:=by simp[getObj,Sem.run,hb]
 have hs:=K8 hkd hf hk hmr hm w;have hlt:c.blk<w.heap.size:=(amt.1 hb).1;have hso:∀o,(setObj c.blk o).run P w=.ok () {w with heap:=w.heap.setIfInBounds c.blk o}:=λo=>by simp[setObj,Sem.run,hb]
 have turn:∀rs' ck' es',ay E es' (rs':Array MapEntry).toList->Rel w0 S0 E (L.set i (.map es' ck')) {w with heap:=w.heap.setIfInBounds c.blk (.map rs' ck')}:=λrs' ck' es' hm' =>
  hR.turn (w':={w with heap:=w.heap.setIfInBounds c.blk (.map rs' ck')}) (k':=.map es' ck') hi rfl hc aoK (λb hb=>by simp[anU,Ne.symm hb]) rfl rfl rfl
   ⟨c,rs',hc,by simp[hlt],hm'⟩ (λ_ _ e=>by cases e)
 cases r with
 | none =>
   have hfk:(Instr.findKey kt v rs.toList).run P w=.ok none w:=hs;refine⟨_,?_,turn rs ck es hmr⟩;simp[builtin,Builtin.delete_,run_underlying hd,hg,hck,hfk,hso]
 | some p =>
   obtain⟨j,z⟩:=p;obtain⟨e,q,b,hfk,g2,g3,g4,g5,g6⟩:=hs;refine⟨_,?_,turn (rs.eraseIdxIfInBounds j) ck (es.eraseIdx j) (by simpa using ay.del hmr)⟩;simp[builtin,Builtin.delete_,run_underlying hd,hg,hck,hfk,hso]
theorem abP{t kt et t' ty:TypeId}{kd:mJ}{k:AV}{u v:Value}{cs:Array Bool}(hR:Rel w0 S0 E L w)(hd:P.underlying t=some (.map kt et))(hkd:fZ P kt=some kd)(hu:VR E .nilmap u)(hf:bE kd k=true)(hk:VR E k v):
  (builtin .delete ⟨[t,t']⟩ ty cs ⟨[u,v]⟩).run P w=.ok (.value (.tuple #[])) w:=by
 simp only[VR]at hu;subst hu;have hck:∀e,(Instr.checkKey e 10000 kt v).run P w=.ok () w:=λe=>rX hkd hf hk e
 simp[builtin,Builtin.delete_,run_underlying hd,hck]
theorem ah1{own:Nat}{ts:List TypeId}{xs:List Operand}{ys:List Opd}{ty:TypeId}{cs:Array Bool}{lo:LOp}{c:Prop}{av:AV}{L':List Blk}(hR:Rel w0 S0 E L w)(hT:TR E T a)(hx:qb xs=some ys)(hl:dl P own .delete ts ys=some lo)(he:ak T L lo=some (c,av,L')):eu P w0 S0 E L' av w (builtin .delete ⟨ts⟩ ty cs ⟨xs.map a.eval⟩):=by
 unfold dl at hl;split at hl<;>try (rename_i h0;cases h0)
 rename_i t t' m k _;obtain⟨x,y,rfl,hu,hv⟩:=aaH hx;split at hl<;>try cases hl
 rename_i kt et hd;rcases h4:fZ P kt with _|kd<;>simp[h4]at hl;subst hl;simp only[ak]at he;split at he<;>try cases he
 rename_i kv h5 h6;split at he<;>cases he;rename_i hf;exact .same hR (v:=.tuple #[]) (abP hR hd h4 (ai hu h5 hT) hf (ai hv h6 hT)) (by simp[VR,VRL]);rename_i i kv h5 h6;split at he<;>try cases he
 rename_i es ck h8;split at he<;>try cases he
 rename_i hf;have go:=λr hm=>ad7 (P:=P) (t':=t') (ty:=ty) (cs:=cs) (r:=r) hR hd h4 h8 (ai hu h5 hT) hf (ai hv h6 hT) hm
 split at he<;>cases he;rename_i j y' hm;obtain⟨w',g1,g2⟩:=go _ hm;exact⟨E,.tuple #[],w',.inl g1,.refl E,by simp[VR,VRL],g2⟩;rename_i hm;obtain⟨w',g1,g2⟩:=go _ hm;exact⟨E,.tuple #[],w',.inl g1,.refl E,by simp[VR,VRL],g2⟩;cases hl
end
section
variable {P:Program}{w0:World}{S0:SB}{E:Env}{L:List Blk}{w:World}{T:Tm}{a:Act}
def LOp.isCall:LOp->Bool
 |.call _ _|.callv _ _=>true
 |_=>false
set_option maxHeartbeats 1000000 in
theorem YS{own:Nat}{o:Oper}{lo:LOp}{c:Prop}{av:AV}{L':List Blk}(hR:Rel w0 S0 E L w)(hT:TR E T a)(hl:iE P own o.op=some lo)(hnc:lo.isCall=false)(he:ak T L lo=some (c,av,L'))(hc:c):
  eu P w0 S0 E L' av w (execOp a.eval o):=by
 obtain⟨dst,op,ty,pos,after,guard⟩:=o;cases op<;>simp only[iE]at hl<;>try cases hl
 case move x =>
  show eu P w0 S0 E L' av w (pure (.value (a.eval x)));rcases h1:bG x with _|y<;>simp[h1]at hl;subst hl;simp only[ak]at he;rcases h2:evX T y with _|u<;>simp only[h2,alX,alL,reduceCtorEq,als,alE]at he;obtain⟨rfl,rfl,rfl⟩:=he;exact .same hR rfl (ai h1 h2 hT)
 case assign x =>
  show eu P w0 S0 E L' av w (pure (.value (a.eval x)));rcases h1:bG x with _|y<;>simp[h1]at hl;subst hl;simp only[ak]at he;rcases h2:evX T y with _|u<;>simp only[h2,alX,alL,reduceCtorEq,als,alE]at he;obtain⟨rfl,rfl,rfl⟩:=he;exact .same hR rfl (ai h1 h2 hT)
 case pick x y z =>
  show eu P w0 S0 E L' av w (do pure (.value (if <- asBool (a.eval x)then a.eval y else a.eval z)));split at hl<;>try cases hl
  rename_i x' y' z' h1 h2 h3;simp only[ak]at he;split at he<;>try cases he
  all_goals
   rename_i h4;have hx:=ai h1 h4 hT;simp only[VR]at hx
  .rcases h5:evX T y' with _|u<;>simp only[h5,alX,alL,reduceCtorEq,als,alE]at he;obtain⟨rfl,rfl,rfl⟩:=he;exact .same hR (by simp[hx,asBool]) (ai h2 h5 hT)
  .rcases h5:evX T z' with _|u<;>simp only[h5,alX,alL,reduceCtorEq,als,alE]at he;obtain⟨rfl,rfl,rfl⟩:=he;exact .same hR (by simp[hx,asBool]) (ai h3 h5 hT)
 case alloc t =>
  show eu P w0 S0 E L' av w (do pure (.value (<- Instr.alloc t true (.tuple #[]))));rcases h1:zOf P t with _|z<;>simp[h1]at hl;subst hl;simp only[ak,als,alE]at he;obtain⟨rfl,rfl,rfl⟩:=he;exact(abS hR h1).done
 case box t x =>
  show eu P w0 S0 E L' av w (do pure (.value (<- Instr.box t (a.eval x))));rcases h1:bG x with _|y<;>simp[h1]at hl;subst hl;simp only[ak]at he;rcases h2:evX T y with _|u
  .simp[h2]at he
  .simp only[h2,amE]at he;rcases h3:u.cells? with _|l<;>simp only[h3,reduceCtorEq,als,alE]at he;obtain⟨rfl,rfl,rfl⟩:=he;exact(Uc hR (rp h3 (ai h1 h2 hT))).done
 case build t ps =>
  show eu P w0 S0 E L' av w (do pure (.value (<- Instr.build t (ps.map λ(i,x)=>(i,a.eval x)))));have hps:(ps.map λ(i,x)=>(i,a.eval x))=⟨ps.toList.map λ(i,x)=>(i,a.eval x)⟩:=(by apply Array.ext';simp);rw[hps];split at hl<;>try cases hl
  rename_i d z hd hz;split at hl<;>try cases hl
  .rename_i fs;split at hl<;>try cases hl
   rename_i hk;rcases hm:fS P (.struct fs) ps.toList with _|m<;>simp only[hm,alX,alL,reduceCtorEq,als]at hl;subst hl;simp only[ak]at he;rcases hf:ms T z m with _|l<;>simp only[hf,alX,alL,reduceCtorEq,als,alE]at he;obtain⟨rfl,rfl,rfl⟩:=he;exact(aah hT hR hd hz hk hm hf).done
  .rename_i n e;split at hl<;>try cases hl
   rename_i hs;rcases hm:fS P (.array n e) ps.toList with _|m<;>simp only[hm,alX,alL,reduceCtorEq,als]at hl;subst hl;simp only[ak]at he;rcases hf:ms T z m with _|l<;>simp only[hf,alX,alL,reduceCtorEq,als,alE]at he;obtain⟨rfl,rfl,rfl⟩:=he;exact(aai hT hR hd hz hm hs hf).done
 case buildSlice t n ps =>
  show eu P w0 S0 E L' av w (do pure (.value (<- Instr.buildSlice t n (ps.map λ(i,x)=>(i,a.eval x)))));have hps:(ps.map λ(i,x)=>(i,a.eval x))=⟨ps.toList.map λ(i,x)=>(i,a.eval x)⟩:=(by apply Array.ext';simp);rw[hps];split at hl<;>try cases hl
  rename_i e hd;split at hl<;>try cases hl
  rename_i s z m hs hz hm;split at hl<;>try cases hl
  rename_i hk;simp only[ak]at he;rcases hf:ms T (eA z n) m with _|l<;>simp only[hf,reduceCtorEq]at he;have:=aaj (own:=own == 2) hT hR hd hs hz hk.1 hk.2 hm hf;split at he<;>simp only[als,alE]at he<;>obtain⟨rfl,rfl,rfl⟩:=he
  .rename_i ho;rw[if_pos ho]at this;exact this.done
  .rename_i ho;rw[if_neg ho]at this;exact this.done
 case load t x =>
  split at hl<;>try cases hl
  rename_i g s y h1 h2 h3;exact afd hR hT h1 h2 h3 he hc
 case store t x y =>
  split at hl<;>try cases hl
  rename_i s p q h1 h2 h3;exact adk hR hT h1 h2 h3 he hc
 case nilCheck x =>
  rcases h1:bG x with _|y<;>simp[h1]at hl;subst hl;simp only[ak]at he;split at he<;>try cases he
  all_goals
   rename_i h2;have hx:=jF hR h1 h2 hT
  .have hx':=hx;obtain⟨p,hp⟩:=hx'.ptr_shape;exact .same hR (by simp[execOp,hp]) hx
  .have hx':=hx;obtain⟨p,hp⟩:=hx'.iptr_shape;exact .same hR (by simp[execOp,hp]) hx
  .have hx':=hx;obtain⟨p,hp⟩:=hx'.iface_shape;exact .same hR (by simp[execOp,hp]) hx
  .have hx':=hx;obtain⟨p,hp⟩:=hx'.func_shape;exact .same hR (by simp[execOp,hp]) hx
 case binOp op t x y u=>exact ah3 (u:=u) hR hT hl he hc
 case unOp op t x =>
  show eu P w0 S0 E L' av w (do pure (.value (<- Op.unary op (a.eval x))));rcases h1:bG x with _|y<;>simp[h1]at hl;subst hl;simp only[ak]at he;split at he<;>try cases he
  rename_i u h2;rcases h3:un op u with _|r<;>simp only[h3,alX,alL,reduceCtorEq,als,alE]at he;obtain⟨rfl,rfl,rfl⟩:=he;exact(aiI hR (ai h1 h2 hT) h3).done
 case convert s d x =>
  rcases h1:bG x with _|y
  .simp[h1]at hl
  .simp only[h1,amE]at hl;exact afe hR hT h1 hl he hc
 case makeInterface t x =>
  show eu P w0 S0 E L' av w (do pure (.value (<- Instr.makeInterface t (a.eval x))));split at hl<;>try cases hl
  rename_i d hni hd;rcases h1:bG x with _|y<;>simp only[h1,alX,alL,reduceCtorEq,als]at hl;subst hl;simp only[ak]at he;rcases h2:evX T y with _|u<;>simp only[h2,alX,alL,reduceCtorEq,als,alE]at he;obtain⟨rfl,rfl,rfl⟩:=he;refine .same hR (v:=.iface t (a.eval x)) ?_ ⟨_,rfl,ai h1 h2 hT⟩;simp only[Instr.makeInterface,alz,run_underlying hd,alB];cases d<;>first|rfl|exact absurd hd (hni _)
 case makeFunc fn first caps =>
  show eu P w0 S0 E L' av w (do pure (.value (<- Instr.makeFunc fn (first.map a.eval) (caps.map a.eval))));split at hl<;>try cases hl
  rename_i f;split at hl<;>try cases hl
  rename_i hfirst;rcases h1:qb caps.toList with _|ys<;>simp only[h1,alX,alL,reduceCtorEq,als]at hl;subst hl;simp only[ak]at he;rcases h2:gC T ys with _|l<;>simp only[h2,alX,alL,reduceCtorEq,als,alE]at he;obtain⟨rfl,rfl,rfl⟩:=he;have hf:first=#[]:=by simpa using hfirst
  subst hf;refine .same hR (v:=.func (.func f) #[] (caps.map a.eval)) (by simp[Instr.makeFunc]) ⟨caps.toList.map a.eval,?_,sc h1 h2 hT⟩;congr 1;apply Array.ext';simp
 case makeSlice t l c' =>
  show eu P w0 S0 E L' av w (do pure (.value (<- Instr.makeSlice t (a.eval l) (a.eval c'))));split at hl<;>try cases hl
  rename_i e hd;split at hl<;>try cases hl
  rename_i s b z l' c'' hs hb hz h1 h2;split at hl<;>try cases hl
  rename_i hk;simp only[ak]at he;split at he<;>try cases he
  rename_i k1 n k2 m h3 h4;have e1:=ai h1 h3 hT;have e2:=ai h2 h4 hT;simp only[VR]at e1 e2;rw[e1,e2];exact(YK hR hd hs hb hz hk.1 hc.1 hc.2.1 hc.2.2.1 hc.2.2.2).done
 case slice t x lo' hi mx =>
  split at hl<;>try cases hl
  .rename_i x' lo'' hi' hd h1 h2 h3 h4;have hmx:mx=none:=by
    cases mx with
    |none=>rfl
    |some m=>simp[tB]at h4
   subst hmx;show eu P w0 S0 E L' av w (do pure (.value (<- Instr.sliceAt t (a.eval x) (lo'.map a.eval) (hi.map a.eval) none)));simp only[ak]at he;split at he<;>try cases he
   rename_i s r1 r2 h5 h6 h7;exact(agx hR hd (ai h1 h5 hT) (dU hT h2 h6) (dU hT h3 h7) hc.1 hc.2.1 hc.2.2).done
  .rename_i e x' lo'' hi' mx' hd h1 h2 h3 h4;rcases hs:cR P e with _|s<;>simp only[hs,alX,alL,reduceCtorEq,als]at hl;subst hl;exact ahY hR hT hd hs h1 h2 h3 h4 he hc
  .rename_i n e x' lo'' hi' hd h1 h2 h3 h4;rcases hs:cR P e with _|s<;>simp only[hs,alX,alL,reduceCtorEq,als]at hl;subst hl;have hmx:mx=none:=by
    cases mx with
    |none=>rfl
    |some m=>simp[tB]at h4
   subst hmx;exact ahZ hR hT hd hs h1 h2 h3 he hc
 case fieldAddr t x f =>
  split at hl<;>try cases hl
  rename_i fs x' hd h1;split at hl<;>try cases hl
  rename_i fd hf;split at hl<;>try cases hl
  rename_i hz;exact adn hR hT hd hf hz h1 he
 case field t x f =>
  split at hl<;>try cases hl
  rename_i fs x' hd h1;split at hl<;>try cases hl
  rename_i fd hf;split at hl<;>try cases hl
  rename_i g s hg hs;exact adm hR hT hd hf hg hs h1 he hc
 case indexAddr t x i =>
  split at hl<;>try cases hl
  .rename_i e x' i' hd h1 h2;rcases hs:cR P e with _|s<;>simp only[hs,alX,alL,reduceCtorEq,als]at hl;subst hl;exact adl hR hT hd hs h1 h2 he hc
  .rename_i n e x' i' hd h1 h2;rcases hs:cR P e with _|s<;>simp only[hs,alX,alL,reduceCtorEq,als]at hl;subst hl;exact aa2 hR hT hd hs h1 h2 he hc
 case index t x i =>
  show eu P w0 S0 E L' av w (do pure (.value (<- Instr.index t (a.eval x) (a.eval i))));split at hl<;>try cases hl
  rename_i x' i' hd h1 h2;simp only[ak]at he;split at he<;>try cases he
  rename_i s k n h3 h4;have e2:=ai h2 h4 hT;simp only[VR]at e2;rw[e2];exact(ad8 hR hd (ai h1 h3 hT) hc.1 hc.2).done
 case extract x i =>
  show eu P w0 S0 E L' av w (do pure (.value (<- Instr.extract (a.eval x) i)));rcases h1:bG x with _|y<;>simp[h1]at hl;subst hl;simp only[ak]at he;split at he<;>try cases he
  rename_i l h2;rcases h3:l[i]? with _|u<;>simp only[h3,alX,alL,reduceCtorEq,als,alE]at he;obtain⟨rfl,rfl,rfl⟩:=he;exact(YL hR (ai h1 h2 hT) h3).done
 case makeMap t r =>
  show eu P w0 S0 E L' av w (do pure (.value (<- Instr.makeMap t (r.map a.eval))));cases r with
  |some x=>simp at hl
  | none =>
    simp only at hl;split at hl<;>try cases hl
    rename_i kt et hd;simp only[ak,als,alE]at he;obtain⟨rfl,rfl,rfl⟩:=he;exact(abN hR hd).done
 case lookup t m k ok =>
  show eu P w0 S0 E L' av w (do pure (.value (<- Instr.lookup t (a.eval m) (a.eval k) ok)));split at hl<;>try cases hl
  rename_i kt et m' k' hd h1 h2;split at hl<;>try cases hl
  rename_i kd z h3 h4;simp only[ak]at he;split at he<;>try cases he
  .rename_i kv h5 h6;split at he<;>cases he;rename_i hf;exact(abO ok hR hd h3 h4 (ai h1 h5 hT) hf (ai h2 h6 hT)).done
  .rename_i i kv h5 h6;split at he<;>try cases he
   rename_i es ck h7;split at he<;>try cases he
   rename_i hf;have go:=λr av hm hav=>(ad6 (P:=P) (r:=r) (av:=av) ok hR hd h3 h4 h7 (ai h1 h5 hT) hf (ai h2 h6 hT) hm hav).done
   split at he<;>cases he
   .rename_i j v hm;exact go _ _ hm rfl
   .rename_i hm;exact go _ _ hm rfl
 case mapUpdate t m k v =>
  show eu P w0 S0 E L' av w (do Instr.mapUpdate t (a.eval m) (a.eval k) (a.eval v);pure .skip);split at hl<;>try cases hl
  rename_i kt et m' k' v' hd h1 h2 h3;rcases h4:fZ P kt with _|kd<;>simp[h4]at hl;subst hl;simp only[ak]at he;split at he<;>try cases he
  rename_i i kv x h5 h6 h7;split at he<;>try cases he
  rename_i es ck h8;split at he<;>try cases he
  rename_i hf;have go:=λr hm=>ad5 (P:=P) (r:=r) hR hd h4 h8 (ai h1 h5 hT) hf (ai h2 h6 hT) (ai h3 h7 hT) hm
  split at he<;>cases he
  .rename_i j y hm;obtain⟨w',g1,g2⟩:=go _ hm;exact⟨E,undef,w',.inr ⟨by simp[g1],rfl⟩,.refl E,by simp[VR],g2⟩
  .rename_i hm;obtain⟨w',g1,g2⟩:=go _ hm;exact⟨E,undef,w',.inr ⟨by simp[g1],rfl⟩,.refl E,by simp[VR],g2⟩
 case range t x =>
  show eu P w0 S0 E L' av w (do pure (.value (<- Instr.range t (a.eval x))));split at hl<;>try cases hl
  .rename_i hd;rcases h1:bG x with _|y<;>simp[h1]at hl;subst hl;simp only[ak]at he;split at he<;>try cases he
   rename_i s h2;exact(aad hR hd (ai h1 h2 hT)).done
  .rename_i kt et hd;rcases h1:bG x with _|y<;>simp[h1]at hl;subst hl;simp only[ak]at he;split at he<;>try cases he
   .rename_i h2;exact(YJ hR hd (ai h1 h2 hT)).done
   .rename_i i h2;split at he<;>cases he;rename_i es ck h3;exact(aae hR hd h3 (ai h1 h2 hT)).done
 case entry x =>
  show eu P w0 S0 E L' av w (do pure (.value (<- Instr.entry (a.eval x))));rcases h1:bG x with _|y<;>simp[h1]at hl;subst hl;simp only[ak]at he;split at he<;>try cases he
  rename_i i h2;split at he<;>try cases he
  rename_i j since seen st h3;split at he<;>try cases he
  rename_i es ck h4;split at he<;>cases he;rename_i e h5;exact(aag hR h3 h4 (ai h1 h2 hT) h5).done
 case next x isS =>
  show eu P w0 S0 E L' av w (do pure (.value (<- Instr.next (a.eval x) isS ty)));by_cases hS:isS=true
  case neg =>
   rw[if_neg hS]at hl;have hS':isS=false:=(by simpa using hS);subst hS';rcases h1:bG x with _|y<;>simp[h1]at hl;subst hl;simp only[ak]at he;split at he<;>try cases he
   rename_i i h2;split at he<;>try cases he
   .rename_i h3;exact(aaf hR h3 (ai h1 h2 hT)).done
   .rename_i j since seen last h3;split at he<;>try cases he
    rename_i es ck h4;split at he<;>cases he;rename_i r h5;exact(abM hR h3 h4 (ai h1 h2 hT) h5).done
  rw[if_pos hS]at hl;subst hS;rcases h1:bG x with _|y<;>simp[h1]at hl;subst hl;simp only[ak]at he;split at he<;>try cases he
  rename_i i h2;split at he<;>try cases he
  rename_i s p h3;have key:=abL (P:=P) (t:=ty) hR h3 (ai h1 h2 hT);split at he<;>cases he
  .rename_i hp;rw[if_pos hp,if_pos hp]at key;exact key.done
  .rename_i hp;rw[if_neg hp,if_neg hp]at key;exact key.done
 case call c' =>
  obtain⟨callee,args,ats⟩:=c';split at hl<;>try cases hl
  rename_i xs hx;split at hl<;>try cases hl
  .simp[LOp.isCall]at hnc
  .rename_i x _ _;rcases h1:bG x with _|y<;>simp only[h1,alX,alL,reduceCtorEq,als]at hl;subst hl;simp[LOp.isCall]at hnc
  .rename_i b hb;simp only at hb hx hl;subst hb;have:execOp a.eval {dst,op:=.call {callee:=.builtin b,args,argTypes:=ats},type:=ty,pos,after,guard}=builtin b ⟨ats.toList⟩ ty (args.map λ|.const _=>true|_=>false) ⟨args.toList.map a.eval⟩:=by simp only[execOp,resolve,pure_bind,invoke];congr 1;apply Array.ext';simp
   rw[this];exact Zr hR hT hx hl he hc λe=>by subst e;exact ah1 hR hT hx hl he
end
structure aj where
 dst:Option Nat
 op:LOp
 guard:Option (Nat×Bool)
 deriving Inhabited
def cM(dst:Option Nat)(v:AV)(T:Tm):Tm :=
 match dst with
 |some d=>(d,v)::T
 |none=>T
def fw(r:Option Nat):Fence:={fn:=λ_=>True,depth:=none,alive:=false,round:=r}
theorem ab3{args:Array Value}{w:World}{R:Ending->World->Prop}(r:Option Nat)(n:Nat)(h:Calls P f args w R):CallsIn (fw r) n P f args w R:=by have h1:CallsIn Fence.wide n P f args w R:=callsIn_wide.2 h;cases r<;>exact h1
theorem Zw{n l:Nat}{tmps:Array Value}{ca cb:Code}{w:World}{R:Ending->World->Prop}(r:Option Nat)(h:RoundIn (fw none) n P l f tmps ca cb w R):RoundIn (fw r) n P l f tmps ca cb w R:=by cases r<;>exact h
def ahB(P:Program)(i:Nat)(args:List AV)(L:List Blk)(Q:AV->List Blk->Prop):Prop :=
 ∀(w0:World) (S0:SB) (E:Env) (w:World) (vs:List Value),Rel w0 S0 E L w->VRL E args vs->∀c,E.loc i=some c ->
  ∃fn tmps ca cb,(Instr.yield c.blk ⟨vs⟩).run P w=.ok (.round c.blk fn tmps ca cb) w/\RoundIn (fw none) 0 P c.blk fn tmps ca cb w λe w'=>∃E' v av L',e=.returned v/\E.le E'/\Q av L'/\VR E' av v/\Rel w0 S0 E' L' w'
theorem ahB.mono{Q Q':AV->List Blk->Prop}(h:ahB P i args L Q)(hq:∀av L',Q av L'->Q' av L'):ahB P i args L Q':=by intro w0 S0 E w vs hR hv c hc;obtain⟨fn,tmps,ca,cb,h1,h2⟩:=h w0 S0 E w vs hR hv c hc;exact⟨fn,tmps,ca,cb,h1,h2.mono λe w' ⟨E',v,av,L',a,b,c,d⟩=>⟨E',v,av,L',a,b,hq _ _ c,d⟩⟩
def ae(P:Program)(f:FuncId)(args:List AV)(L:List Blk)(Q:AV->List Blk->Prop):Prop :=
 ∀(w0:World) (S0:SB) (E:Env) (w:World) (vs:List Value),Rel w0 S0 E L w->VRL E args vs ->
  ((callFunc f ⟨vs⟩).run P w=.ok (.enter f ⟨vs⟩) w/\Calls P f ⟨vs⟩ w λe w'=>∃E' v av L',e=.returned v/\E.le E'/\Q av L'/\VR E' av v/\Rel w0 S0 E' L' w') \/
  (∃E' v av L' w',(callFunc f ⟨vs⟩).run P w=.ok (.value v) w'/\E.le E'/\Q av L'/\VR E' av v/\Rel w0 S0 E' L' w')
theorem ae.mono{Q Q':AV->List Blk->Prop}(h:ae P f args L Q)(hq:∀av L',Q av L'->Q' av L'):ae P f args L Q':=by intro w0 S0 E w vs hR hv;rcases h w0 S0 E w vs hR hv with⟨h1,h2⟩|⟨E',v,av,L',w',h1,h2,h3,h4⟩;exact .inl ⟨h1,h2.mono λe w' ⟨E',v,av,L',a,b,c,d⟩=>⟨E',v,av,L',a,b,hq _ _ c,d⟩⟩;exact .inr ⟨E',v,av,L',w',h1,h2,hq _ _ h3,h4⟩
def Res(K:Tm->List Blk->Prop)(d:Option Nat)(T:Tm):Option (Prop×AV×List Blk)->Prop
 |some (c,av,L')=>c/\K (cM d av T) L'
 |none=>False
theorem ahm{c:Prop}{av:AV}{L':List Blk}:Res K d T (some (c,av,L'))=(c/\K (cM d av T) L'):=rfl
def Kon(K:Tm->List Blk->Prop)(d:Option Nat)(T:Tm):AV->List Blk->Prop:=λav L'=>K (cM d av T) L'
def Cal(P:Program)(f:FuncId)(K:Tm->List Blk->Prop)(d:Option Nat)(T:Tm)(L:List Blk):Option (List AV)->Prop
 |some args=>ae P f args L (Kon K d T)
 |none=>False
theorem ahx       :Cal P f K d T L (some args)=ae P f args L (Kon K d T):=rfl
def ahw(P:Program)(K:Tm->List Blk->Prop)(d:Option Nat)(T:Tm)(L:List Blk):Option AV->Option (List AV)->Prop
 |some (.func g caps),some args=>ae P g (args++caps) L (Kon K d T)
 |some (.yld i),some args=>ahB P i args L (Kon K d T)
 |_,_=>False
theorem aeP{g:FuncId}{caps:List AV}:ahw P K d T L (some (.func g caps)) (some args)=ae P g (args++caps) L (Kon K d T):=rfl
def AOp(P:Program)(o:aj)(K:Tm->List Blk->Prop)(T:Tm)(L:List Blk):Prop :=
 match o.op with
 |.call f xs=>Cal P f K o.dst T L (gC T xs)
 |.callv f xs=>ahw P K o.dst T L (evX T f) (gC T xs)
 |lo=>Res K o.dst T (ak T L lo)
def Grd(P:Program)(o:aj)(K:Tm->List Blk->Prop)(b:Bool)(T:Tm)(L:List Blk):Option AV->Prop
 |some (.bool x)=>if x=b then AOp P o K T L else K (cM o.dst (.tup []) T) L
 |some (.tup [])=>K (cM o.dst (.tup []) T) L
 |_=>False
theorem KL{o:aj}{x:Bool}:Grd P o K b T L (some (.bool x))=if x=b then AOp P o K T L else K (cM o.dst (.tup []) T) L:=rfl
theorem ac0{o:aj}:Grd P o K b T L (some (.tup []))=K (cM o.dst (.tup []) T) L:=rfl
def oI(P:Program)(K:Tm->List Blk->Prop):List aj->Tm->List Blk->Prop
 |[],T,L=>K T L
 | o::rest,T,L=>match o.guard with
   |none=>AOp P o (oI P K rest) T L
   |some (t,b)=>Grd P o (oI P K rest) b T L (aq T t)
theorem ahE    :oI P K [] T L=K T L:=rfl
theorem aeQ{op:LOp}{rest:List aj}:oI P K (⟨d,op,none⟩::rest) T L=AOp P ⟨d,op,none⟩ (oI P K rest) T L:=rfl
theorem acd{op:LOp}{rest:List aj}:oI P K (⟨d,op,some (t,b)⟩::rest) T L=Grd P ⟨d,op,some (t,b)⟩ (oI P K rest) b T L (aq T t):=rfl
def ajn(N:Nat):Option Nat->Bool
 |some d=>decide (d<N)
 |none=>true
def oL(P:Program)(N:Nat)(own:Nat->Nat)(ops:Array Oper)(i:Nat):Option aj :=
 match ops[i]? with
 |none=>none
 | some o=>match (iE P (own i) o.op).getD .bad with
   | lo =>
     if ajn N o.dst=true then
      match o.guard with
      |none=>some ⟨o.dst,lo,none⟩
      | some (j,b)=>match (ops[j]?).bind (·.dst) with
        |some t=>if t<N then some ⟨o.dst,lo,some (t,b)⟩else none
        |none=>none
     else none
def ce(P:Program)(N:Nat)(own:Nat->Nat)(ops:Array Oper):List Nat->Option (List aj)
 |[]=>some []
 | i::l=>match oL P N own ops i,ce P N own ops l with
   |some o,some m=>some (o::m)
   |_,_=>none
section
variable {P:Program}{w0:World}{S0:SB}{N:Nat}
theorem Vg(a:Act)(d:Option Nat)(v:Value):(a.put d v).tmps.size=a.tmps.size:=by cases d<;>simp[Act.put]
theorem Pj(a:Act)(d:Option Nat)(v:Value):(a.put d v).defers=a.defers:=by cases d<;>simp[Act.put]
theorem TR.putT{E:Env}{T:Tm}{a:Act}{d:Option Nat}{x:AV}{v:Value}(r:TR E T a)(hd:∀k,d=some k->k<a.tmps.size)(hv:VR E x v):TR E (cM d x T) (a.put d v):=by
 cases d with
 |none=>exact r
 |some k=>exact r.put (hd k rfl) hv
def mkD(D:Nat):Deferred:={target:=.collected D,args:=#[]}
def ab8(w0:World)(S0:SB)(ds:List Deferred):Prop:=S0.B<=w0.heap.size/\ds.Nodup/\∀d∈ds,∃D,d=mkD D/\S0.B<=D/\D<w0.heap.size/\¬S0 D/\w0.heap[D]?=some (.deferred (some []))
theorem ab8.nil{w0:World}{S0:SB}(h:S0.B<=w0.heap.size):ab8 w0 S0 []:=⟨h,anV,λ_ h=>by cases h⟩
def St(w0:World)(S0:SB)(N:Nat)(E:Env)(T:Tm)(L:List Blk)(a:Act)(w:World):Prop :=
 Rel w0 S0 E L w/\TR E T a/\a.tmps.size=N/\ab8 w0 S0 a.defers
theorem abt{own:Nat}{s d:TypeId}{x:Opd}{lo:LOp}(h:xY P own s d x=some lo):lo.isCall=false:=by
 unfold xY at h
 repeat' split at h
 all_goals (first|(cases h;rfl)|cases h)
theorem adP{op:BinOp}{t:TypeId}{x y:Operand}{lo:LOp}(h:Pn P op t x y=some lo):lo.isCall=false:=by
 unfold Pn at h
 repeat' split at h
 all_goals (first|(cases h;rfl)|cases h)
theorem WO{own:Nat}{b:Builtin}{ts:List TypeId}{xs:List Opd}{lo:LOp}(h:dl P own b ts xs=some lo):lo.isCall=false:=by
 unfold dl at h
 repeat' split at h
 all_goals (first|(cases h;rfl)|cases h|(simp only[alS]at h;obtain⟨_,_,rfl⟩:=h;rfl))
theorem af7{own:Nat}{op:Op}{lo:LOp}(h:iE P own op=some lo)(hc:∀c,op≠.call c):lo.isCall=false:=by
 cases op
 case makeMap t r =>
  cases r with
  |some x=>simp[iE]at h
  | none =>
    simp only[iE]at h;split at h<;>cases h;rfl
 all_goals (simp only[iE]at h;try (cases h;done))
 case call c=>exact absurd rfl (hc c)
 case binOp=>exact adP h
 case convert x=>simp only[ani]at h;obtain⟨_,_,h⟩:=h;exact abt h
 all_goals
  repeat' split at h
  all_goals (first|(cases h;rfl)|cases h|(simp only[alS]at h;obtain⟨_,_,rfl⟩:=h;rfl))
theorem Lc{own:Nat}{o:Oper}{lo:LOp}{gd:Option (Nat×Bool)}(hl':(iE P own o.op).getD .bad=lo)(hd:∀d,o.dst=some d->d<N){T:Tm}{L:List Blk}{E:Env}{a:Act}{w:World}{K:Tm->List Blk->Prop}(hst:St w0 S0 N E T L a w)(h:AOp P ⟨o.dst,lo,gd⟩ K T L){next:Act->World->Prop}{Q:Exit->Act->World->Prop}(hK:∀E' T' L' a' w',E.le E'->K T' L'->St w0 S0 N E' T' L' a' w'->next a' w'){r:Option Nat}:o.wpIn (fw r) 0 P a w next Q:=by
 have hl:iE P own o.op=some lo:=by rcases hq:iE P own o.op with _|x;rw[hq]at hl';simp only[anB]at hl';subst hl';exact h.elim;rw[hq]at hl';simp only[amj]at hl';rw[hl']
 obtain⟨hR,hT,hN,hdf⟩:=hst;have hnd:∀c,o.op≠.defer c:=λc e=>by rw[e]at hl;simp[iE]at hl
 refine⟨λ_ _=>trivial,?_⟩;rw[Oper.semAt_plain _ _ _ hnd];have value:∀{E':Env}{v:Value}{av:AV}{L':List Blk}{w':World},E.le E'->VR E' av v->Rel w0 S0 E' L' w'->K (cM o.dst av T) L'->next (a.put o.dst v) w':=λ{E' v av L' w'} h1 h2 h3 h4 =>
  hK E' _ _ _ _ h1 h4 ⟨h3,(hT.mono h1).putT (λk hk=>by rw[hN];exact hd k hk) h2,by rw[Vg];exact hN,by rw[Pj];exact hdf⟩
 have called:∀{f:FuncId}{vs:List Value}{args:List AV},((execOp a.eval o).run P w=(callFunc f ⟨vs⟩).run P w)->VRL E args vs->ae P f args L (Kon K o.dst T)->o.uponIn (fw r) 0 P a next Q ((execOp a.eval o).run P w):=λ{f vs args} hrun hv hc=>by rw[hrun];rcases hc w0 S0 E w vs hR hv with⟨h1,h2⟩|⟨E',v,av,L',w',h1,h2,h3,h4,h5⟩;rw[h1,Oper.uponIn_enter];refine⟨λh=>(by cases h),(ab3 r _ h2).mono λe w' ⟨E',v,av,L',e1,h3,h4,h5,h6⟩=>?_⟩;subst e1;exact value h3 h5 h6 h4;rw[h1,Oper.uponIn_value];exact value h2 h4 h5 h3
 by_cases hcall:lo.isCall=true
 .obtain⟨d0,op,ty,pos,after,guard⟩:=o;by_cases hop:∃c,op=.call c
  .obtain⟨⟨callee,args,ats⟩,rfl⟩:=hop;simp only[iE]at hl;split at hl<;>try cases hl
   rename_i xs hx;split at hl<;>try cases hl
   rename_i f;simp only[AOp]at h;rcases hev:gC T xs with _|l;rw[hev]at h;exact h.elim;rw[hev]at h;refine called (vs:=args.toList.map a.eval) ?_ (sc hx hev hT) h;rw[execOp_call_go];congr 2;apply Array.ext';simp
   .rename_i x _;rcases h1:bG x with _|y<;>simp only[h1,alX,alL,reduceCtorEq,als]at hl;subst hl;simp only[AOp]at h;rcases hev:evX T y with _|u;rw[hev]at h;exact h.elim;rcases hevs:gC T xs with _|l;rw[hev,hevs]at h;cases u<;>exact h.elim;rw[hev,hevs]at h;cases u<;>simp only[ahw]at h
    case yld i =>
     have hx':=ai h1 hev hT;simp only[VR]at hx';obtain⟨c,hc,hfv⟩:=hx';have hrun:(execOp a.eval {dst:=d0,op:=.call {callee:=.value x,args,argTypes:=ats},type:=ty,pos,after,guard}).run P w=(Instr.yield c.blk (args.map a.eval)).run P w:=by simp only[execOp,resolve,hfv,Deferred.ofValue,pure_bind,invoke];congr 2;simp
     have hargs:(⟨args.toList.map a.eval⟩:Array Value)=args.map a.eval:=(by apply Array.ext';simp);obtain⟨fn,tmps,ca,cb,k1,k2⟩:=h w0 S0 E w _ hR (sc hx hevs hT) c hc;rw[hrun,<- hargs,k1,Oper.uponIn_round];refine⟨λh=>(by cases h),(Zw r k2).mono λe w' ⟨E',v,av,L',e1,h3,h4,h5,h6⟩=>?_⟩;subst e1;exact value h3 h5 h6 h4
    rename_i g caps;have hx':=ai h1 hev hT;simp only[VR]at hx';obtain⟨cs,hfv,hcs⟩:=hx';refine called (vs:=args.toList.map a.eval++cs) ?_ ((sc hx hevs hT).append hcs) h;have:execOp a.eval {dst:=d0,op:=.call {callee:=.value x,args,argTypes:=ats},type:=ty,pos,after,guard}=callFunc g (args.map a.eval++⟨cs⟩):=by simp only[execOp,resolve,hfv,Deferred.ofValue,pure_bind,invoke];congr 1;apply Array.ext';simp
    rw[this];congr 2;apply Array.ext';simp
   rw[WO hl]at hcall;cases hcall
  rw[af7 hl (λc e=>hop ⟨c,e⟩)]at hcall;cases hcall
 have hcall:lo.isCall=false:=by simpa using hcall
 have h':Res K o.dst T (ak T L lo):=by cases lo<;>simp only[LOp.isCall,amC]at hcall<;>exact h
 rcases he:ak T L lo with _|⟨c,av,L'⟩;rw[he]at h';exact h'.elim;rw[he]at h';obtain⟨E',v,w',h1,h2,h3,h4⟩:=YS hR hT hl hcall he h'.1;rcases h1 with h1|⟨h1,rfl⟩;rw[h1,Oper.uponIn_value];exact value h2 h3 h4 h'.2;rw[h1,Oper.uponIn_skip];exact value h2 h3 h4 h'.2
end
section
variable {P:Program}{w0:World}{S0:SB}{N:Nat}
theorem jK{E:Env}{T:Tm}{a:Act}{ops:Array Oper}{j t:Nat}(hT:TR E T a)(hj:(ops[j]?).bind (·.dst)=some t)(ht:t<a.tmps.size):
  (∀x,aq T t=some (.bool x)->yielded ops a.tmps j=some x)/\(aq T t=some (.tup [])->yielded ops a.tmps j=none):=by
 refine⟨λx hx=>?_,λhx=>?_⟩;have:=hT t _ hx;simp only[VR]at this;unfold yielded;rw[hj];simp only[amE];rw[amb ht];rw[amp,amb ht]at this;simp only[amj]at this;rw[this];have:=hT t _ hx;simp only[VR,VRL]at this;obtain⟨vs,h1,h2⟩:=this;subst h2;unfold yielded;rw[hj];simp only[amE];rw[amb ht];rw[amp,amb ht]at h1;simp only[amj]at h1;rw[h1]
theorem gA{own:Nat->Nat}{ops:Array Oper}{i:Nat}{lo:aj}(h:oL P N own ops i=some lo):
  ∃o,ops[i]?=some o/\(iE P (own i) o.op).getD .bad=lo.op/\o.dst=lo.dst/\(∀d,o.dst=some d->d<N) /\
   ((o.guard=none/\lo.guard=none)\/∃j b t,o.guard=some (j,b)/\(ops[j]?).bind (·.dst)=some t/\t<N/\lo.guard=some (t,b)):=by
 unfold oL at h;split at h;cases h;rename_i o ho;generalize hl:(iE P (own i) o.op).getD .bad=lo' at h;simp only at h;split at h;rename_i hd;have hd':∀d,o.dst=some d->d<N:=λd e=>by rw[e]at hd;simpa[ajn]using hd
 split at h;rename_i hg;cases h;exact⟨o,ho,hl,rfl,hd',.inl ⟨hg,rfl⟩⟩;rename_i j b hg;split at h;rename_i t ht;split at h;rename_i hlt;cases h;exact⟨o,ho,hl,rfl,hd',.inr ⟨j,b,t,hg,ht,hlt,rfl⟩⟩;cases h;cases h;cases h
theorem P1{E:Env}{T:Tm}{L:List Blk}{a:Act}{w:World}(h:St w0 S0 N E T L a w){d:Option Nat}(hd:∀k,d=some k->k<N):St w0 S0 N E (cM d (.tup []) T) L (a.put d undef) w :=
 ⟨h.1,h.2.1.putT (λk hk=>by rw[h.2.2.1];exact hd k hk) ⟨[],rfl,rfl⟩,by rw[Vg];exact h.2.2.1,by rw[Pj];exact h.2.2.2⟩
theorem PO{own:Nat->Nat}{ops:Array Oper}{K:Tm->List Blk->Prop}{Q:Exit->Act->World->Prop}{r:Option Nat}:∀(is:List Nat) (los:List aj),ce P N own ops is=some los ->
  ∀{T:Tm}{L:List Blk}{E:Env}{a:Act}{w:World},St w0 S0 N E T L a w->oI P K los T L->(∀E' T' L' a' w',E.le E'->K T' L'->St w0 S0 N E' T' L' a' w'->Q .normal a' w')->wpOpsIn (fw r) 0 P ops Q is a w
 |[],los,hl,T,L,E,a,w,hst,h,hK=>by simp[ce]at hl;subst hl;exact hK E T L a w (.refl E) h hst
 | i::is,los,hl,T,L,E,a,w,hst,h,hK=>by
   simp only[ce]at hl;split at hl<;>try cases hl
   rename_i lo los' h1 h2;obtain⟨o,ho,hop,hdst,hd,hg⟩:=gA h1;obtain⟨ld,lop,lg⟩:=lo;simp only at hop hdst hg;subst hdst;simp only[wpOpsIn,ho];have go:AOp P ⟨o.dst,lop,lg⟩ (oI P K los') T L->o.wpIn (fw r) 0 P a w (wpOpsIn (fw r) 0 P ops Q is) Q:=λh' =>
    Lc hop hd hst h' λE' T' L' a' w' hle hk' hst'=>PO is los' h2 hst' hk' λE'' T'' L'' a'' w'' hle'=>hK E'' T'' L'' a'' w'' (hle.trans hle')
   have skip:oI P K los' (cM o.dst (.tup []) T) L->wpOpsIn (fw r) 0 P ops Q is (a.put o.dst undef) w:=λh' =>
    PO is los' h2 (P1 hst hd) h' hK
   rcases hg with⟨g1,g2⟩|⟨j,b,t,g1,g2,g3,g4⟩
   .subst g2;simp only[oI]at h;rw[if_pos (by simp[Region.wanted,g1])];exact go h
   .subst g4;simp only[oI]at h;have hy:=jK (E:=E) (T:=T) (a:=a) (ops:=ops) hst.2.1 g2 (by rw[hst.2.2.1];exact g3);rcases hx:aq T t with _|u
    .rw[hx]at h;exact h.elim
    rw[hx]at h;cases u<;>try exact h.elim
    .rename_i x;rw[KL]at h;have:=hy.1 x hx;by_cases e:x=b
     .rw[if_pos (by simp[Region.wanted,g1,this,e])];rw[if_pos e]at h;exact go h
     .rw[if_neg (by simp[Region.wanted,g1,this,e])];rw[if_neg e]at h;exact⟨λ_ _=>trivial,skip h⟩
    .rename_i l;cases l with
     |cons _ _=>exact h.elim
     | nil =>
       have:=hy.2 hx;rw[if_neg (by simp[Region.wanted,g1,this])];exact⟨λ_ _=>trivial,skip h⟩
theorem St.weak{T:Tm}{L:List Blk}{E:Env}{a:Act}{w:World}{T':Tm}{L':List Blk}(h:St w0 S0 N E T L a w)(hT:∀t v,aq T' t=some v->aq T t=some v)(hL:L'.length=L.length)(hsub:∀(i:Nat) (k:Blk),L'[i]?=some k->k=.dead\/L[i]?=some k):St w0 S0 N E T' L' a w:=⟨h.1.kill hL hsub,h.2.1.weak hT,h.2.2⟩
end
def Opd.tmps:Opd->List Nat
 |.tmp t=>[t]
 |.av _=>[]
def adK:Option Opd->List Nat
 |some x=>x.tmps
 |none=>[]
def Ys:List (Nat×Nat×Opd)->List Nat
 |[]=>[]
 |(_,_,x)::l=>x.tmps++Ys l
def Xs:List Opd->List Nat
 |[]=>[]
 |x::l=>x.tmps++Xs l
def LOp.tmps:LOp->List Nat
 |.mv x|.box x|.load _ _ x|.nilchk x|.slnil _ x|.un _ x|.conv _ x|.sconv x|.b2s x|.s2b x|.s2bO x|.s2bG x|.rangeS x|.nextS x|.mkif _ x|.faddr _ x|.field _ _ _ x|.extract x _|.len _ x|.cap x|.clear _ _ x=>x.tmps
 |.pick c a b=>c.tmps++a.tmps++b.tmps
 |.alloc _|.bad|.mkmap=>[]
 |.mlen x|.mrange x|.mnext x|.mentry x=>x.tmps
 |.mget _ _ _ a x=>a.tmps++x.tmps
 |.mdel _ a x=>a.tmps++x.tmps
 |.mset _ c a b=>c.tmps++a.tmps++b.tmps
 |.build _ ps|.bslice _ _ _ _ ps=>Ys ps
 |.store _ a x|.bin _ a x|.eqk _ _ a x|.eq2 _ a x|.mkslice _ _ _ a x|.iaddr _ a x|.iaddrA _ _ a x|.idxS a x|.app _ _ _ _ a x|.appz _ _ _ a x|.copy _ a x=>a.tmps++x.tmps
 |.mkfn _ l|.minmax _ l|.call _ l=>Xs l
 |.callv f l=>f.tmps++Xs l
 |.slS x lo hi|.slA _ _ x lo hi=>x.tmps++adK lo++adK hi
 |.slV _ x lo hi mx=>x.tmps++adK lo++adK hi++adK mx
section
variable {T T':Tm}{L:List Blk}
theorem az{x:Opd}(h:∀t∈x.tmps,aq T t=aq T' t):evX T x=evX T' x:=by
 cases x with
 |tmp t=>exact h t (by simp[Opd.tmps])
 |av a=>rfl
theorem oE{x:Option Opd}(h:∀t∈adK x,aq T t=aq T' t):bnd T x=bnd T' x:=by
 cases x with
 |none=>rfl
 |some x=>simp only[bnd,az (x:=x) h]
theorem oD:∀{l:List Opd},(∀t∈Xs l,aq T t=aq T' t)->gC T l=gC T' l
 |[],_=>rfl
 |x::l,h=>by simp only[Xs,alv]at h;simp only[gC,az (x:=x) (λt ht=>h t (.inl ht)),oD (l:=l) (λt ht=>h t (.inr ht))]
theorem Kj:∀{ps:List (Nat×Nat×Opd)}{z:List AV},(∀t∈Ys ps,aq T t=aq T' t)->ms T z ps=ms T' z ps
 |[],_,_=>rfl
 | (o,s,x)::l,z,h=>by
   simp only[Ys,alv]at h;simp only[ms,az (x:=x) (λt ht=>h t (.inl ht))];split
   .split
    .exact Kj λt ht=>h t (.inr ht)
    .rfl
   .rfl
theorem Se{lo:LOp}(h:∀t∈lo.tmps,aq T t=aq T' t):ak T L lo=ak T' L lo:=by
 cases lo
 case mv x=>simp only[ak,evD,az (x:=x) h]
 case box x=>simp only[ak,evD,az (x:=x) h]
 case load g s x=>simp only[ak,evD,az (x:=x) h]
 case nilchk x=>simp only[ak,evD,az (x:=x) h]
 case un o x=>simp only[ak,evD,az (x:=x) h]
 case conv k x=>simp only[ak,evD,az (x:=x) h]
 case sconv x=>simp only[ak,evD,az (x:=x) h]
 case b2s x=>simp only[ak,evD,az (x:=x) h]
 case bad=>rfl
 case mkmap=>rfl
 case mlen x=>simp only[ak,evD,az (x:=x) h]
 case mrange x=>simp only[ak,evD,az (x:=x) h]
 case mnext x=>simp only[ak,evD,az (x:=x) h]
 case mentry x=>simp only[ak,evD,az (x:=x) h]
 case mget kd ok z a x =>
  simp only[LOp.tmps,alv]at h;simp only[ak,evD,az (x:=a) (λt ht=>h t (.inl ht)),az (x:=x) (λt ht=>h t (.inr ht))]
 case mdel kd a x =>
  simp only[LOp.tmps,alv]at h;simp only[ak,evD,az (x:=a) (λt ht=>h t (.inl ht)),az (x:=x) (λt ht=>h t (.inr ht))]
 case mset kd c a b =>
  simp only[LOp.tmps,alv]at h;simp only[ak,evD,az (x:=c) (λt ht=>h t (.inl (.inl ht))),az (x:=a) (λt ht=>h t (.inl (.inr ht))),az (x:=b) (λt ht=>h t (.inr ht))]
 case slnil _ x=>simp only[ak,evD,az (x:=x) h]
 case s2b x=>simp only[ak,evD,az (x:=x) h]
 case s2bO x=>simp only[ak,evD,az (x:=x) h]
 case s2bG x=>simp only[ak,evD,az (x:=x) h]
 case rangeS x=>simp only[ak,evD,az (x:=x) h]
 case nextS x=>simp only[ak,evD,az (x:=x) h]
 case mkif t x=>simp only[ak,evD,az (x:=x) h]
 case faddr o x=>simp only[ak,evD,az (x:=x) h]
 case field g o s x=>simp only[ak,evD,az (x:=x) h]
 case extract x i=>simp only[ak,evD,az (x:=x) h]
 case len b x=>cases b<;>simp only[ak,evD,az (x:=x) h]
 case cap x=>simp only[ak,evD,az (x:=x) h]
 case clear s z x=>simp only[ak,evD,az (x:=x) h]
 case alloc z=>rfl
 case pick c a b =>
  simp only[LOp.tmps,alv]at h;simp only[ak,evD,az (x:=c) (λt ht=>h t (.inl (.inl ht))),az (x:=a) (λt ht=>h t (.inl (.inr ht))),az (x:=b) (λt ht=>h t (.inr ht))]
 case build z ps=>simp only[ak,evD,Kj (ps:=ps) h]
 case bslice o s n z ps=>simp only[ak,evD,Kj (ps:=ps) h]
 case mkfn f l=>simp only[ak,evD,oD (l:=l) h]
 case minmax m l =>
  match l,h with
  | [x,y],h =>
    simp only[LOp.tmps,Xs,alv,alY]at h;simp only[ak,evD,az (x:=x) (λt ht=>h t (.inl ht)),az (x:=y) (λt ht=>h t (.inr ht))]
  |[],_=>rfl
  |[_],_=>rfl
  |_::_::_::_,_=>rfl
 case call f l=>rfl
 case callv f l=>rfl
 case slS x lo hi =>
  simp only[LOp.tmps,alv]at h;simp only[ak,evD,az (x:=x) (λt ht=>h t (.inl (.inl ht))),oE (x:=lo) (λt ht=>h t (.inl (.inr ht))),oE (x:=hi) (λt ht=>h t (.inr ht))]
 case slA n s x lo hi =>
  simp only[LOp.tmps,alv]at h;simp only[ak,evD,az (x:=x) (λt ht=>h t (.inl (.inl ht))),oE (x:=lo) (λt ht=>h t (.inl (.inr ht))),oE (x:=hi) (λt ht=>h t (.inr ht))]
 case slV s x lo hi mx =>
  simp only[LOp.tmps,alv]at h;simp only[ak,evD,az (x:=x) (λt ht=>h t (.inl (.inl (.inl ht)))),oE (x:=lo) (λt ht=>h t (.inl (.inl (.inr ht)))),oE (x:=hi) (λt ht=>h t (.inl (.inr ht))),oE (x:=mx) (λt ht=>h t (.inr ht))]
 all_goals
  rename_i a x;simp only[LOp.tmps,alv]at h;simp only[ak,evD,az (x:=a) (λt ht=>h t (.inl ht)),az (x:=x) (λt ht=>h t (.inr ht))]
end
def aj.reads(o:aj):List Nat :=
 o.op.tmps++(match o.guard with|some (t,_)=>[t]|none=>[])
def AQv(P:Program)(o:aj)(T:Tm)(L:List Blk)(v:AV):Prop :=
 match o.op with
 | .call f xs=>match gC T xs with
   |some args=>ae P f args L λav L'=>av=v/\L'=L
   |none=>False
 | .callv f xs=>match evX T f,gC T xs with
   |some (.func g caps),some args=>ae P g (args++caps) L λav L'=>av=v/\L'=L
   |_,_=>False
 | lo=>match ak T L lo with
   |some (c,av,L')=>c/\av=v/\L'=L
   |none=>False
def AQ(P:Program)(o:aj)(T:Tm)(L:List Blk)(v:AV):Prop :=
 match o.guard with
 |none=>AQv P o T L v
 | some (t,b)=>match aq T t with
   |some (.bool x)=>if x=b then AQv P o T L v else v=.tup []
   |some (.tup [])=>v=.tup []
   |_=>False
theorem AQ.congr{o:aj}{T':Tm}(h:∀t∈o.reads,aq T t=aq T' t)(hq:AQ P o T L v):AQ P o T' L v:=by
 have h1:∀t∈o.op.tmps,aq T t=aq T' t:=λt ht=>h t (by simp[aj.reads,ht])
 have hv:AQv P o T L v->AQv P o T' L v:=λhv=>by unfold AQv at hv⊢;split at hv;rename_i f xs e;rw[e]at h1;rw[<- oD (l:=xs) h1];exact hv;rename_i f xs e;rw[e]at h1;simp only[LOp.tmps,alv]at h1;rw[<- oD (l:=xs) (λt ht=>h1 t (.inr ht)),<- az (x:=f) (λt ht=>h1 t (.inl ht))];exact hv;rw[<- Se h1];exact hv
 unfold AQ at hq⊢;split at hq;exact hv hq;rename_i t b hg;rw[<- h t (by simp[aj.reads,hg])];split at hq;split at hq;rename_i e;rw[if_pos e];exact hv hq;rename_i e;rw[if_neg e];exact hq;exact hq;exact hq.elim
def TL(T:Tm):List aj->List AV->Nat->(Nat->Bool)->Tm
 |o::qs,v::tr,k,f=>TL (if f k=true then cM o.dst v T else T) qs tr (k+1) f
 |_,_,_,_=>T
def aaQ:List aj->Prop
 |[]=>True
 |o::qs=>(∀p∈qs,∀d,o.dst=some d->p.dst≠some d)/\aaQ qs
theorem xZ(h:d≠some t):aq (cM d v T) t=aq T t:=by
 cases d with
 |none=>rfl
 |some d=>simp only[cM,aq];rw[if_neg (λe=>h (by rw[e]))]
theorem RQ   :aq (cM (some t) v T) t=some v:=by simp[cM,aq]
theorem UT{t:Nat}:∀{qs:List aj}{tr:List AV}{T:Tm}{k:Nat}{f:Nat->Bool},(∀(j:Nat) (o:aj),qs[j]?=some o->o.dst=some t->f (k+j)=false)->aq (TL T qs tr k f) t=aq T t
 |[],tr,T,k,f,_=>by cases tr<;>rfl
 |o::qs,[],T,k,f,_=>rfl
 | o::qs,v::tr,T,k,f,h=>by
   simp only[TL];rw[UT (λj p hp hd=>by have:=h (j+1) p (by simpa using hp) hd;rwa[show k+1+j=k+(j+1)by omega])];split
   .rename_i hf;refine xZ λe=>?_
    have:=h 0 o aoK e;simp[hf]at this
   .rfl
theorem acW{t:Nat}{v:AV}:∀{qs:List aj}{tr:List AV}{T:Tm}{k:Nat}{f:Nat->Bool}{j:Nat}{o:aj},aaQ qs->qs[j]?=some o->o.dst=some t->tr[j]?=some v->f (k+j)=true->aq (TL T qs tr k f) t=some v
 |[],_,_,_,_,j,o,_,h,_,_,_=>by simp at h
 |p::qs,[],_,_,_,j,o,_,_,_,h,_=>by simp at h
 |p::qs,u::tr,T,k,f,0,o,hD,h,hd,hv,hf=>by simp only[amk,als]at h hv;subst h hv;simp only[TL];simp only[amP]at hf;rw[if_pos hf,UT λj q hq hqd=>absurd hqd (hD.1 q (al8 hq) t hd),hd];exact RQ
 |p::qs,u::tr,T,k,f,j+1,o,hD,h,hd,hv,hf=>by simp only[TL];exact acW hD.2 (by simpa using h) hd (by simpa using hv) (by rwa[show k+1+j=k+(j+1)by omega])
theorem WB:∀{qs:List aj}{tr:List AV}{T:Tm}{k:Nat}{f g:Nat->Bool},(∀j,j<qs.length->f (k+j)=g (k+j))->TL T qs tr k f=TL T qs tr k g
 |[],tr,T,k,f,g,_=>by cases tr<;>rfl
 |o::qs,[],T,k,f,g,_=>rfl
 |o::qs,v::tr,T,k,f,g,h=>by simp only[TL];have h0:=h 0 aoK;simp only[amP]at h0;rw[h0];exact WB λj hj=>by rw[show k+1+j=k+(j+1)by omega];exact h (j+1) (by simpa using hj)
theorem aaL:∀(qs:List aj) (tr:List AV) (T:Tm) (k:Nat),TL T qs tr k (λ_=>false)=T:=by
 intro qs;induction qs with
 |nil=>intro tr T k;cases tr<;>rfl
 | cons q qs ih=>intro tr T k;cases tr with
   |nil=>rfl
   |cons u tr=>simp only[TL];rw[ih];simp
theorem KO{t:Nat}:∀{qs:List aj}{i j:Nat}{o p:aj},aaQ qs->qs[i]?=some o->qs[j]?=some p->o.dst=some t->p.dst=some t->i=j
 |[],i,j,o,p,_,h,_,_,_=>by simp at h
 |q::qs,0,0,o,p,_,_,_,_,_=>rfl
 |q::qs,0,j+1,o,p,hD,h1,h2,d1,d2=>by simp only[amk,als]at h1;subst h1;exact absurd d2 (hD.1 p (al8 (by simpa using h2)) t d1)
 |q::qs,i+1,0,o,p,hD,h1,h2,d1,d2=>by simp only[amk,als]at h2;subst h2;exact absurd d1 (hD.1 o (al8 (by simpa using h1)) t d2)
 |q::qs,i+1,j+1,o,p,hD,h1,h2,d1,d2=>by have:=KO (i:=i) (j:=j) (o:=o) (p:=p) hD.2 (by simpa using h1) (by simpa using h2) d1 d2;omega
theorem Y6{qs:List aj}{tr:List AV}{f:Nat->Bool}{j:Nat}{o:aj}(hD:aaQ qs)(hl:tr.length=qs.length)(h:qs[j]?=some o)(hd:o.dst=some t):
  aq (TL T qs tr 0 f) t=if f j=true then tr[j]? else aq T t:=by
 have hj:j<tr.length:=by have:=(alq.1 h).1;omega
 split;rename_i hf;rw[alH hj];exact acW hD h hd (alH hj) (by simpa using hf);rename_i hf;exact UT λj' o' ho' hd'=>by have:=KO hD ho' h hd' hd;subst this;simpa using hf
theorem Y7{qs:List aj}{tr:List AV}{f:Nat->Bool}(h:∀(j:Nat) (o:aj),qs[j]?=some o->o.dst≠some t):aq (TL T qs tr 0 f) t=aq T t :=
 UT λj o ho hd=>absurd hd (h j o ho)
def acP(tbl:List Nat)(o:Oper):Nat:=(o.after.toList.filter λe=>Region.binds .any e).foldl (λacc e=>acc |||(1 <<< e.on) |||tbl.getD e.on 0) 0
def qo:List Oper->List Nat->List Nat
 |[],t=>t
 |o::l,t=>qo l (t++[acP t o])
def agO(ops:Array Oper)(tbl:List Nat):Bool:=ops.toList.zipIdx.all λ(o,i)=>tbl.getD i 0 == acP tbl o
theorem X6{o:Oper}{j:Nat}(h:(acP tbl o).testBit j=true):∃e∈o.after.toList,Region.binds .any e=true/\(j=e.on\/(tbl.getD e.on 0).testBit j=true):=by
 have key:∀(l:List Edge) (acc:Nat),(l.foldl (λacc e=>acc |||(1 <<< e.on) |||tbl.getD e.on 0) acc).testBit j=true->acc.testBit j=true\/∃e∈l,j=e.on\/(tbl.getD e.on 0).testBit j=true:=by
  intro l;induction l with
  |nil=>intro acc h;exact .inl h
  | cons e l ih =>
    intro acc h;rcases ih _ h with h1|⟨e',h1,h2⟩
    .rw[Nat.testBit_or,Nat.testBit_or,al9,al9]at h1;rcases h1 with(h1|h1)|h1
     .exact .inl h1
     .refine .inr ⟨e,aoK,.inl ?_⟩;rw[Nat.one_shiftLeft,Nat.testBit_two_pow]at h1;exact(of_decide_eq_true h1).symm
     .exact .inr ⟨e,aoK,.inr h1⟩
    .exact .inr ⟨e',by simp[h1],h2⟩
 rcases key _ _ h with h1|⟨e,h1,h2⟩;simp at h1;rw[alZ]at h1;exact⟨e,h1.1,h1.2,h2⟩
def acO:List aj->Bool
 |[]=>true
 |o::qs=>(match o.dst with|some d=>qs.all λp => !(p.dst == some d)|none=>true)&&acO qs
theorem VY:∀{qs:List aj},acO qs=true->aaQ qs
 |[],_=>trivial
 |o::qs,h=>by simp only[acO,alx]at h;refine⟨λp hp d hd=>?_,VY h.2⟩;have h1:=h.1;rw[hd]at h1;have:=alC.1 h1 p hp;simpa using this
def akz(tbl:List Nat)(los:List aj):Bool :=
 los.zipIdx.all λ(o,i)=>o.reads.all λt=>los.zipIdx.all λ(p,j) => !(p.dst == some t) ||(tbl.getD i 0).testBit j ||(tbl.getD j 0).testBit i
def Wy(ops:Array Oper):Bool:=ops.toList.zipIdx.all λ(o,i)=>o.after.toList.all λe => !Region.binds .any e ||decide (e.on<i)
def ab2(tbl:List Nat)(n k:Nat):Bool:=(List.range k).all λi=>decide (i<n) ||(List.range i).all λj=>(tbl.getD i 0).testBit j
def Ya(tbl:List Nat)(k:Nat):Nat->Nat
 |0=>0
 |n+1=>if((List.range n).all λj=>(tbl.getD n 0).testBit j)=true then Ya tbl k n else n+1
def Km(ops:Array Oper)(los:List aj)(n:Nat):Bool :=
 let tbl:=qo ops.toList []
 acO los&&akz tbl los&&Wy ops&&agO ops tbl&&ab2 tbl n ops.size
def Tt(ops:Array Oper)(listed:Array Bool):Prop:=∀(i:Nat) (o:Oper),listed.getD i false=true->ops[i]?=some o->∀e∈o.after,Region.binds .any e=true->listed.getD e.on false=true
theorem aco(hf:agO ops tbl=true){o:Oper}(ho:ops[i]?=some o):tbl.getD i 0=acP tbl o:=by have:=alC.1 hf (o,i) (by rw[anF];simpa using ho);simpa using this
theorem Le(h:Wy ops=true){o:Oper}(ho:ops[i]?=some o){e:Edge}(he:e∈o.after)(hb:Region.binds .any e=true):e.on<i:=by have:=alC.1 h (o,i) (by rw[anF];simpa using ho);have:=alC.1 this e (by simpa using he);simpa[hb]using this
theorem YW(h:Wy ops=true)(hf:agO ops tbl=true):∀(i j:Nat),i<ops.size->(tbl.getD i 0).testBit j=true->j<i:=by
 intro i;induction i using Nat.strongRecOn with
 | _ i ih =>
   intro j hi hj;have ho:ops[i]?=some ops[i]:=amb hi;rw[aco hf ho]at hj;obtain⟨e,he,hb,hj⟩:=X6 hj;have hlt:=Le h ho (by simpa using he) hb;rcases hj with rfl|hj
   .exact hlt
   .have:=ih e.on hlt j aoJ hj;omega
theorem fp(h:Wy ops=true)(hf:agO ops tbl=true){listed:Array Bool}(hc:Tt ops listed):∀(i j:Nat),i<ops.size ->
  (∀o,ops[i]?=some o->∀e∈o.after,Region.binds .any e=true->listed.getD e.on false=true)->(tbl.getD i 0).testBit j=true->listed.getD j false=true:=by
 intro i;induction i using Nat.strongRecOn with
 | _ i ih =>
   intro j hi hed hj;have ho:ops[i]?=some ops[i]:=amb hi;rw[aco hf ho]at hj;obtain⟨e,he,hb,hj⟩:=X6 hj;have hlt:=Le h ho (by simpa using he) hb;have hl:=hed _ ho e (by simpa using he) hb;rcases hj with rfl|hj
   .exact hl
   .exact ih e.on hlt j aoJ (λo' ho' e' he' hb'=>hc e.on o' hl ho' e' he' hb') hj
theorem X4:∀(l:List Bool) (i:Nat),l[i]?=some false->(l.set i true).count false+1=l.count false
 |[],i,h=>by simp at h
 |b::l,0,h=>by simp at h;subst h;simp
 |b::l,i+1,h=>by have:=X4 l i (by simpa using h);simp only[anW,List.count_cons];omega
theorem xX{P:Program}{N:Nat}{own:Nat->Nat}{ops:Array Oper}:∀{is:List Nat}{los:List aj},ce P N own ops is=some los->los.length=is.length/\∀(k i:Nat),is[k]?=some i->∃lo,los[k]?=some lo/\oL P N own ops i=some lo
 |[],los,h=>by simp[ce]at h;subst h;simp
 | j::is,los,h=>by
   simp only[ce]at h;split at h<;>try cases h
   rename_i o m h1 h2;have:=xX h2;refine⟨by simp[this.1],λk i hk=>?_⟩;cases k with
   |zero=>simp at hk;subst hk;exact⟨o,aoK,h1⟩
   |succ k=>simpa using this.2 k i (by simpa using hk)
section
variable {P:Program}{r:Option Nat}{w0:World}{S0:SB}{N:Nat}{own:Nat->Nat}{ops:Array Oper}{L:List Blk}
theorem ahg{i:Nat}{lo:aj}(h1:oL P N own ops i=some lo){T:Tm}{v:AV}{E:Env}{a:Act}{w:World}(hst:St w0 S0 N E T L a w)(hq:AQ P lo T L v){K:Act->World->Prop}{Q:Exit->Act->World->Prop}(hK:∀E' a' w',E.le E'->St w0 S0 N E' (cM lo.dst v T) L a' w'->K a' w'):wpOpIn (fw r) 0 P ops Q i K a w:=by
 obtain⟨o,ho,hop,hdst,hd,hg⟩:=gA h1;obtain⟨ld,lop,lg⟩:=lo;simp only at hop hdst hg hK;subst hdst;unfold wpOpIn;simp only[ho];have toOp:AQv P ⟨o.dst,lop,lg⟩ T L v->AOp P ⟨o.dst,lop,lg⟩ (λT' L'=>T'=cM o.dst v T/\L'=L) T L:=λhv=>by
  unfold AQv at hv;unfold AOp;simp only at hv⊢;split at hv;split at hv;rename_i f xs _ args he;show Cal P f _ o.dst T L (gC T xs);rw[he];exact hv.mono λav L' ⟨e1,e2⟩=>by subst e1;exact⟨rfl,e2⟩
  exact hv.elim;split at hv;rename_i f xs _ _ g caps args he1 he2;show ahw P _ o.dst T L (evX T f) (gC T xs);rw[he1,he2];exact hv.mono λav L' ⟨e1,e2⟩=>by subst e1;exact⟨rfl,e2⟩
  exact hv.elim;split at hv;rename_i c av L' he;have hres:Res (λT' L'=>T'=cM o.dst v T/\L'=L) o.dst T (ak T L lop):=by rw[he];obtain⟨hc,rfl,rfl⟩:=hv;exact⟨hc,rfl,rfl⟩
  cases lop<;>first|exact hres|(simp[ak]at he)
  exact hv.elim
 have go:AQv P ⟨o.dst,lop,lg⟩ T L v->o.wpIn (fw r) 0 P a w K Q:=λhv =>
  Lc hop hd hst (toOp hv) λE' T' L' a' w' hle hk hst'=>by obtain⟨rfl,rfl⟩:=hk;exact hK E' a' w' hle hst'
 unfold AQ at hq;rcases hg with⟨g1,g2⟩|⟨j,b,t,g1,g2,g3,g4⟩;subst g2;simp only at hq;rw[if_pos (by simp[Region.wanted,g1])];exact(go hq);subst g4;simp only at hq;have hy:=jK (E:=E) (T:=T) (a:=a) (ops:=ops) hst.2.1 g2 (by rw[hst.2.2.1];exact g3);split at hq;rename_i x hx;have:=hy.1 x hx;by_cases e:x=b;rw[if_pos e]at hq;rw[if_pos (by simp[Region.wanted,g1,this,e])];exact(go hq);rw[if_neg e]at hq;subst hq;rw[if_neg (by simp[Region.wanted,g1,this,e])];exact⟨λ_ _=>trivial,hK E _ w (.refl E) (P1 hst hd)⟩;rename_i hx;have:=hy.2 hx;subst hq;rw[if_neg (by simp[Region.wanted,g1,this])];exact⟨λ_ _=>trivial,hK E _ w (.refl E) (P1 hst hd)⟩;exact hq.elim
theorem Wu{i:Nat}{lo:aj}(h1:oL P N own ops i=some lo){T:Tm}{L:List Blk}{E:Env}{a:Act}{w:World}(hst:St w0 S0 N E T L a w){K:Tm->List Blk->Prop}(h:oI P K [lo] T L){K':Act->World->Prop}{Q:Exit->Act->World->Prop}(hK:∀E' T' L' a' w',E.le E'->K T' L'->St w0 S0 N E' T' L' a' w'->K' a' w'):wpOpIn (fw r) 0 P ops Q i K' a w:=by
 obtain⟨o,ho,hop,hdst,hd,hg⟩:=gA h1;obtain⟨ld,lop,lg⟩:=lo;simp only at hop hdst hg;subst hdst;unfold wpOpIn;simp only[ho];have go:AOp P ⟨o.dst,lop,lg⟩ (oI P K []) T L->o.wpIn (fw r) 0 P a w K' Q:=λh' =>
  Lc hop hd hst h' λE' T' L' a' w' hle hk' hst'=>hK E' T' L' a' w' hle hk' hst'
 have skip:K (cM o.dst (.tup []) T) L->K' (a.put o.dst undef) w:=λh'=>hK E _ L _ w (.refl E) h' (P1 hst hd)
 rcases hg with⟨g1,g2⟩|⟨j,b,t,g1,g2,g3,g4⟩;subst g2;simp only[oI]at h;rw[if_pos (by simp[Region.wanted,g1])];exact(go h);subst g4;simp only[oI]at h;have hy:=jK (E:=E) (T:=T) (a:=a) (ops:=ops) hst.2.1 g2 (by rw[hst.2.2.1];exact g3);rcases hx:aq T t with _|u;rw[hx]at h;exact h.elim;rw[hx]at h;cases u<;>try exact h.elim
 rename_i x;rw[KL]at h;have:=hy.1 x hx;by_cases e:x=b;rw[if_pos (by simp[Region.wanted,g1,this,e])];rw[if_pos e]at h;exact(go h);rw[if_neg (by simp[Region.wanted,g1,this,e])];rw[if_neg e]at h;exact⟨λ_ _=>trivial,skip h⟩;rename_i l;cases l with
 |cons _ _=>exact h.elim
 | nil =>
   have:=hy.2 hx;rw[if_neg (by simp[Region.wanted,g1,this])];exact⟨λ_ _=>trivial,skip h⟩
theorem aa0{los:List aj}{tbl:List Nat}{n:Nat}(hlow:ce P N own ops (List.range ops.size)=some los)(hahead:Wy ops=true)(hfix:agO ops tbl=true)(hchain:ab2 tbl n ops.size=true){K:Tm->List Blk->Prop}{Q:Exit->Act->World->Prop}{E0:Env}(hQ:∀E' T' L' a' w',E0.le E'->K T' L'->St w0 S0 N E' T' L' a' w'->Q .normal a' w'):
  ∀(ts:List aj) (k:Nat) (listed:Array Bool) (T:Tm) (L:List Blk) (a:Act) (w:World) (E:Env),n<=k->k+ts.length=ops.size->los.drop k=ts->listed.size=ops.size ->
   (∀i,i<ops.size->listed.getD i false=decide (i<k))->Tt ops listed->E0.le E->St w0 S0 N E T L a w->oI P K ts T L->wpAnyIn (fw r) 0 P .any ops Q ts.length listed a w:=by
 have hget:=xX hlow;have ready:∀(k:Nat) (listed:Array Bool),n<=k->listed.size=ops.size->(∀i,i<ops.size->listed.getD i false=decide (i<k))->Tt ops listed->∀i∈Region.ready .any ops listed,i=k:=by
  intro k listed hnk hsz hl hcl i hi;obtain⟨hun,o,ho,hed⟩:=mem_ready.1 hi;have hi':i<ops.size:=(amt.1 ho).1;have hik:¬i<k:=λe=>by have h1:=hl i hi';have hlt:i<listed.size:=aoJ;simp only[decide_eq_true e]at h1;simp[amp,hlt]at h1 hun;rw[h1]at hun;cases hun
  rcases alK k i with h1|h1;have:=alC.1 hchain i (by simpa using hi');simp only[al9,decide_eq_true_eq]at this;rcases this with h2|h2;omega;have h3:=alC.1 h2 k (by simpa using h1);have h4:=fp hahead hfix hcl i k hi' (λo' ho'=>by rw[ho]at ho';cases ho';exact hed) h3;rw[hl k aoJ]at h4;simp at h4;omega
 intro ts;induction ts with
 | nil =>
   intro k listed T L a w E hnk hk hts hsz hl hcl hE hst h;refine⟨aov.2 (λi hi=>?_),hQ E T L a w hE h hst⟩;have h1:=ready k listed hnk hsz hl hcl i hi;obtain⟨_,o,ho,_⟩:=mem_ready.1 hi;have hi':i<ops.size:=(amt.1 ho).1;simp at hk;omega
 | cons t ts ih =>
   intro k listed T L a w E hnk hk hts hsz hl hcl hE hst h;simp only[alA]at hk;have hkl:k<ops.size:=aoJ;have hmem:k∈Region.ready .any ops listed:=by
    refine mem_ready.2 ⟨?_,ops[k],amb hkl,λe he hbd=>?_⟩
    .have h1:=hl k hkl;have hlt:k<listed.size:=aoJ;simp[amp,hlt]at h1⊢;exact h1
    .have:=Le hahead (amb hkl) he hbd;rw[hl _ aoJ];simpa using this
   refine⟨λe=>absurd hmem (by rw[e];simp),λi hi=>?_⟩;have hik:=ready k listed hnk hsz hl hcl i hi;subst hik;obtain⟨lo,g1,g2⟩:=hget.2 i i (by simp[hkl]);have ht:lo=t:=by have:=congrArg (λl=>l[0]?) hts;simp only[amo,amP,amk]at this;rw[g1]at this;exact Option.some.inj this
   subst ht;have h':oI P (oI P K ts) [lo] T L:=by obtain⟨d,op,g⟩:=lo;cases g<;>exact h
   exact Wu g2 hst h' λE' T' L' a' w' hle hk' hst'=>by
    refine ih (i+1) (listed.setIfInBounds i true) T' L' a' w' E' aoJ aoJ ?_ (by simpa using hsz) (λj hj=>?_) ?_ (hE.trans hle) hst' hk'
    .rw[<- anG,hts];rfl
    .by_cases e:j=i
     .subst e;have:j<listed.size:=aoJ;simp[amp,this]
     .rw[getD_set_ne false (Ne.symm e),hl j hj];congr 1;apply propext;omega
    .intro j o' hj ho' e he hb;have h5:=Le hahead ho' he hb;have h6:j<ops.size:=(amt.1 ho').1;by_cases e1:j=i
     .subst e1;rw[getD_set_ne false aoJ,hl _ aoJ];simpa using h5
     .rw[getD_set_ne false (Ne.symm e1)]at hj;rw[getD_set_ne false (by rw[hl j h6]at hj;simp at hj;omega)];exact hcl j o' hj ho' e he hb
def lst(L:List Blk)(al:Option (Nat×List AV))(listed:Array Bool):List Blk :=
 match al with
 |some (i,z)=>if listed.getD i false=true then L++[.cells z]else L
 |none=>L
end
end Go.Proofs.YtcmfcpjnhephaaaGreatDoor.Av
