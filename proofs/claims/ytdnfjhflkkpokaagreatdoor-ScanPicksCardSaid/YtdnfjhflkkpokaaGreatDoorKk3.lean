/- Joined texts of the walk, made small by a program. -/
import Derived.Test.YtdnfjhflkkpokaaGreatDoorKk2
import Derived.MapKept
set_option linter.unusedSimpArgs false
set_option linter.unusedVariables false
namespace Go.Proofs.YtdnfjhflkkpokaaGreatDoor.Av
open Go
variable {f:FuncId}{i t:Nat}{args:List AV}{K:Tm->List Blk->Prop}{d:Option Nat}{b:Bool}{v:AV}{tbl:List Nat}
section
variable {P:Program}{w0:World}{S0:SB}{E:Env}{L:List Blk}{w:World}{T:Tm}{a:Act}
theorem adB{own:Nat}{s d:TypeId}{x:Operand}{x':Opd}{lo:LOp}{c:Prop}{av:AV}{L':List Blk}(hR:Rel w0 S0 E L w)(hT:TR E T a)(hx:bJ x=some x')(hl:xX P own s d x'=some lo)(he:au T L lo=some (c,av,L'))(hc:c):
  ez P w0 S0 E L' av w (do pure (.value (<- convert s d (a.eval x)))):=by
 unfold xX at hl;split at hl;rename_i j k hs hd;cases hl;simp only[au]at he;split at he<;>try cases he
 rename_i q n h1;exact(acA hR ⟨j,hs⟩ hd (ao hx h1 hT)).done;rename_i hs hd;cases hl;simp only[au]at he;split at he<;>try cases he
 rename_i l h1;exact(aap hR hs hd (ao hx h1 hT) ⟨l,rfl⟩).done;rename_i e hs hd;split at hl<;>try cases hl
 rename_i he';simp only[au]at he;split at he<;>try cases he
 rename_i u hn h1;split at he<;>try cases he
 rename_i c' l n h2;exact(aez hR hs he' hd (ao hx h1 hT) h2 hc.1 hc.2 (λt e=>hn t e)).done
 .rename_i e hs hd;split at hl<;>try cases hl
  rename_i he'
  repeat' split at hl
  all_goals cases hl
  simp only[au]at he;split at he<;>try cases he
  rename_i s' h1;exact(acu hR hs hd he' (ao hx h1 hT)).done;simp only[au]at he;split at he<;>try cases he
  rename_i s' h1;exact(acv hR hs hd he' (ao hx h1 hT)).done;simp only[au]at he;split at he<;>try cases he
  rename_i s' h1;exact(aew hR hs hd he' (ao hx h1 hT)).done
 simp_all
theorem abu{xs:List Operand}{ys:List Opd}(h:lV xs=some ys):ys.length=xs.length/\∀(i:Nat) (y:Opd),ys[i]?=some y->∃x,xs[i]?=some x/\bJ x=some y:=by
 induction xs generalizing ys with
 |nil=>simp[lV]at h;subst h;simp
 | cons x xs ih =>
   simp only[lV,amj]at h;rcases h1:bJ x with _|y
   .simp_all
   .rcases h2:xs.mapM bJ with _|ys'
    .simp_all
    .have:=ih (by simpa[lV]using h2)
     grind
theorem ae4{xs:List Operand}{y:Opd}(h:lV xs=some [y]):∃x,xs=[x]/\bJ x=some y:=by
 have:=abu h
 match xs,this with
 | [x],⟨_,h2⟩ =>
   obtain⟨z,h3,h4⟩:=h2 0 y amN
   grind
theorem Zp{xs:List Operand}{y z:Opd}(h:lV xs=some [y,z]):∃u v,xs=[u,v]/\bJ u=some y/\bJ v=some z:=by
 have:=abu h
 match xs,this with
 | [u,v],⟨_,h2⟩ =>
   obtain⟨p,h3,h4⟩:=h2 0 y amN;obtain⟨q,h5,h6⟩:=h2 1 z amN
   grind
theorem afL{own:Nat}{t:TypeId}{y:Opd}{xs:List Operand}{ty:TypeId}{cs:Array Bool}{lo:LOp}{c:Prop}{av:AV}{L':List Blk}(hR:Rel w0 S0 E L w)(hT:TR E T a)(hx:lV xs=some [y])(hl:db P own .len [t] [y]=some lo)(he:au T L lo=some (c,av,L')):ez P w0 S0 E L' av w (builtin .len ⟨[t]⟩ ty cs ⟨xs.map a.eval⟩):=by
 obtain⟨x,rfl,hx'⟩:=ae4 hx;have run:∀(n:Int),(Builtin.len_ #[t] ty #[a.eval x]).run P w=.ok (.int .i64 n) w->ez P w0 S0 E L (.int .i64 n) w (builtin .len ⟨[t]⟩ ty cs ⟨[x].map a.eval⟩):=λn h=>.same hR (v:=.int .i64 n) (by simp[builtin,h]) (by simp[VR])
 simp only[db]at hl;split at hl;rename_i hd;cases hl;simp only[au]at he;split at he<;>try cases he
 rename_i s h1;have hv:=ao hx' h1 hT;simp only[VR]at hv;have hsz:(ByteArray.mk ⟨s⟩).size=s.length:=rfl;exact run _ (by simp only[Builtin.len_,alK,akn,ajB,run_underlying hd,ajC,hv,goInt,hsz,aj2])
 .rename_i e hd;cases hl;simp only[au]at he;split at he<;>try cases he
  all_goals rename_i h1;have hv:=ao hx' h1 hT
  simp only[VR]at hv;exact run _ (by simp[Builtin.len_,run_underlying hd,hv,goInt]);obtain⟨_,_,hv,_⟩:=hv;exact run _ (by simp[Builtin.len_,run_underlying hd,hv,goInt]);obtain⟨_,_,hv,_⟩:=hv;exact run _ (by simp[Builtin.len_,run_underlying hd,hv,goInt]);obtain⟨_,_,hv⟩:=hv.lsl_shape;exact run _ (by simp[Builtin.len_,run_underlying hd,hv,goInt])
 rename_i n e hd;cases hl;obtain⟨rfl,rfl,rfl⟩:=he;exact run _ (by simp[Builtin.len_,run_underlying hd,goInt])
 .rename_i kt et hd;cases hl;simp only[au]at he;split at he<;>try cases he
  all_goals rename_i h1;have hv:=ao hx' h1 hT
  simp only[VR]at hv;exact run _ (by simp[Builtin.len_,run_underlying hd,hv,goInt]);split at he<;>try cases he
  rename_i es ck h2;obtain⟨d,hd1,hv⟩:=hv;obtain⟨d',rs,g1,g2,g3⟩:=hR.blk _ _ h2;rw[hd1]at g1;cases g1;have hlen:∀{es:List (AV×AV×Nat)}{rs:List MapEntry},aE E es rs->rs.length=es.length:=by
   intro es;induction es with
   |nil=>intro rs h;simp only[aE]at h;subst h;rfl
   |cons p es ih=>intro rs h;obtain⟨q,y,b⟩:=p;obtain⟨f,s,rfl,_,_,_,g4⟩:=h;simp[ih g4]
  have hg:(getObj d.blk).run P w=.ok (.map rs ck) w:=(by simp[getObj,Sem.run,g2]);have hl2:rs.size=es.length:=(by rw[<- hlen g3];simp);exact run _ (by simp[Builtin.len_,run_underlying hd,hv,goInt,hg,hl2])
 simp_all
theorem afN{own:Nat}{t:TypeId}{y:Opd}{xs:List Operand}{ty:TypeId}{cs:Array Bool}{lo:LOp}{c:Prop}{av:AV}{L':List Blk}(hR:Rel w0 S0 E L w)(hT:TR E T a)(hx:lV xs=some [y])(hl:db P own .cap [t] [y]=some lo)(he:au T L lo=some (c,av,L')):ez P w0 S0 E L' av w (builtin .cap ⟨[t]⟩ ty cs ⟨xs.map a.eval⟩):=by
 obtain⟨x,rfl,hx'⟩:=ae4 hx;have run:∀(n:Int),(Builtin.cap_ #[t] ty #[a.eval x]).run P w=.ok (.int .i64 n) w->ez P w0 S0 E L (.int .i64 n) w (builtin .cap ⟨[t]⟩ ty cs ⟨[x].map a.eval⟩):=λn h=>.same hR (v:=.int .i64 n) (by simp[builtin,h]) (by simp[VR])
 simp only[db]at hl;split at hl
 .rename_i e hd;cases hl;simp only[au]at he;split at he<;>try cases he
  all_goals rename_i h1;have hv:=ao hx' h1 hT;simp only[VR]at hv
  exact run _ (by simp[Builtin.cap_,run_underlying hd,hv,goInt]);obtain⟨_,_,hv,_,hk,_⟩:=hv;exact run _ (by simp[Builtin.cap_,run_underlying hd,hv,goInt,hk _ rfl]);obtain⟨_,_,_,_,hv,_,_,hk,_⟩:=hv;exact run _ (by simp[Builtin.cap_,run_underlying hd,hv,goInt,hk _ rfl])
 rename_i n e hd;cases hl;simp only[au,evX,ajQ,ajt,ajH]at he;obtain⟨rfl,rfl,rfl⟩:=he;exact run _ (by simp[Builtin.cap_,run_underlying hd,goInt]);simp_all
theorem Yo{own:Nat}{b:Builtin}{ts:List TypeId}{xs:List Operand}{ys:List Opd}{ty:TypeId}{cs:Array Bool}{lo:LOp}{c:Prop}{av:AV}{L':List Blk}(hR:Rel w0 S0 E L w)(hT:TR E T a)(hx:lV xs=some ys)(hl:db P own b ts ys=some lo)(he:au T L lo=some (c,av,L'))(hc:c)(hdel:b=.delete->ez P w0 S0 E L' av w (builtin b ⟨ts⟩ ty cs ⟨xs.map a.eval⟩)):ez P w0 S0 E L' av w (builtin b ⟨ts⟩ ty cs ⟨xs.map a.eval⟩):=by
 have hl0:=hl;unfold db at hl;split at hl;exact afL hR hT hx hl0 he;exact afN hR hT hx hl0 he;rename_i t t' y z;obtain⟨u,v,rfl,hu,hv⟩:=Zp hx;have key:∀e s by' zz,P.underlying t=some (.slice e)->((∃e',P.underlying t'=some (.slice e'))\/P.underlying t'=some .string)->cL P e=some s->VN P e=some by'->zOf P e=some zz->zz.length=s->lo=.app own s by' zz y z ->
   ez P w0 S0 E L' av w (builtin .append ⟨[t,t']⟩ ty cs ⟨[u,v].map a.eval⟩):=λe s by' zz h1 h2 h3 h4 h5 h6 hlo=>by
  subst hlo;simp only[au]at he;split at he<;>try cases he
  rename_i p q h7 h8;exact(aeA hR h1 h2 h3 h4 h5 h6 (ao hu h7 hT) (ao hv h8 hT) he hc).done
 split at hl
 grind
 grind
 rename_i e q h1 h2;split at hl<;>try cases hl
 rename_i s by' zz h3 h4 h5;split at hl<;>try cases hl
 rename_i h6;simp only[au]at he;split at he<;>try cases he
 rename_i i off m cp s2 q2 k h7 h8;split at he<;>try cases he
 rename_i l hL;split at he<;>try cases he
 rename_i hss;subst hss;exact(acD hR h1 h2 h3 h4 h5 h6 (ao hu h7 hT) (ao hv h8 hT) hL hc).done;simp_all;rename_i t t' y z;obtain⟨u,v,rfl,hu,hv⟩:=Zp hx;split at hl<;>try cases hl
 rename_i e hd;rcases hs:cL P e with _|s;simp_all;simp only[hs,ajQ,ajt]at hl;subst hl;simp only[au]at he;rcases h8:evX T z with _|q;simp_all;simp only[h8,akV]at he;split at he;rename_i c' new n h7 h9;obtain⟨rfl,rfl,rfl⟩:=he;exact((WX hR hd hs (ao hu h7 hT) (ao hv h8 hT) h9 hc).1 rfl).done;rename_i i off m cap s' c' new n h7 h9;split at he<;>try cases he
 rename_i l hL;split at he<;>try cases he
 rename_i hss;subst hss;exact((WX hR hd hs (ao hu h7 hT) (ao hv h8 hT) h9 hc.1).2 _ _ _ _ _ rfl hL hc.2.1 hc.2.2).done;simp_all;rename_i t y;obtain⟨u,rfl,hu⟩:=ae4 hx;split at hl<;>try cases hl
 rename_i e hd;split at hl<;>try cases hl
 rename_i s zz h3 h5;split at hl<;>try cases hl
 rename_i h6;simp only[au]at he;split at he<;>try cases he
 rename_i h7;exact((U6 hR hd h3 h5 h6 (ao hu h7 hT)).1 rfl).done;rename_i i off m cap s' h7;split at he<;>try cases he
 rename_i l hL;split at he<;>try cases he
 rename_i hss;subst hss;exact((U6 hR hd h3 h5 h6 (ao hu h7 hT)).2 _ _ _ _ _ rfl hL hc).done;simp[*];rename_i y z;obtain⟨u,v,rfl,hu,hv⟩:=Zp hx;cases hl;simp only[au]at he;split at he<;>try cases he
 rename_i k m k' n h7 h8;have e1:=ao hu h7 hT;have e2:=ao hv h8 hT;simp only[VR]at e1 e2;refine .same hR (v:=.int k (if n>m then n else m)) ?_ (by simp[VR]);simp[builtin,Builtin.max_,Builtin.max2,e1,e2];rename_i y z;obtain⟨u,v,rfl,hu,hv⟩:=Zp hx;cases hl;simp only[au]at he;split at he<;>try cases he
 rename_i k m k' n h7 h8;have e1:=ao hu h7 hT;have e2:=ao hv h8 hT;simp only[VR]at e1 e2;refine .same hR (v:=.int k (if n<m then n else m)) ?_ (by simp[VR]);simp[builtin,Builtin.min_,Builtin.min2,e1,e2];simp_all
end
open Go Go.MapKept
section
variable {P:Program}{w0:World}{S0:SB}{E:Env}{L:List Blk}{w:World}{T:Tm}{a:Act}
def jD.desc:jD->TypeDesc->Prop
 |.int,d=>∃k,d=.int k
 |.str,d=>d=.string
 |.bool,d=>d=.bool
 |.st _,_=>False
def jD.flat:jD->Bool
 |.st _=>false
 |_=>true
theorem SY{kt:TypeId}{kd:jD}(h:fV P kt=some kd)(hfl:kd.flat=true):∃d,P.underlying kt=some d/\kd.desc d:=by
 unfold fV at h;split at h<;>try simp only[ajt,reduceCtorEq]at h
 rename_i k hk;subst h;exact⟨_,hk,k,rfl⟩;rename_i hk;subst h;exact⟨_,hk,rfl⟩;rename_i hk;subst h;exact⟨_,hk,rfl⟩;split at h;simp only[ajW]at h;obtain⟨_,_,rfl⟩:=h;cases hfl;cases h
theorem WT{kd:jD}{d:TypeDesc}{k q:AV}{u v:Value}{b:Bool}(hd:kd.desc d)(hfl:kd.flat=true)(hf:bw kd k=true)(hk:VR E k u)(hq:VR E q v)(h:Fs k q=some b):Instr.sameNow d u v=some b:=by
 cases kd<;>try (cases hfl;done)
 all_goals cases k<;>simp only[bw,ajK]at hf<;>cases q<;>simp only[Fs,reduceCtorEq]at h<;>simp only[VR]at hk hq<;>subst hk<;>subst hq<;>simp only[jD.desc]at hd
 obtain⟨k,rfl⟩:=hd;split at h<;>simp only[ajt,reduceCtorEq]at h;rename_i e;subst e;subst h;simp only[Instr.sameNow,if_true];rfl;subst hd;simp only[ajt]at h;subst h;simp only[Instr.sameNow,ajt];rename_i a b;by_cases e:a=b;subst e;simp[bytes_beq];simp only[e,decide_false];rcases h':(({data:={toList:=a}}:ByteArray) == {data:={toList:=b}})with _|_;rfl;have:=(bytes_beq _ _).1 h';simp_all;subst hd;simp only[ajt]at h;subst h;rfl
theorem acl{kd:jD}{kt:TypeId}{d:TypeDesc}{k:AV}{u:Value}(hu:P.underlying kt=some d)(hd:kd.desc d)(hf:bw kd k=true)(hk:VR E k u)(e:Bool)(n:Nat):(Instr.checkKey e (n+1) kt u).run P w=.ok () w:=by
 unfold Instr.checkKey;cases kd<;>try (exact hd.elim)
 all_goals cases k<;>simp only[bw,ajK]at hf<;>simp only[VR]at hk<;>subst hk<;>simp only[jD.desc]at hd
 obtain⟨k,rfl⟩:=hd;simp[ajB,run_underlying hu,Result.andThen];subst hd;simp[ajB,run_underlying hu,Result.andThen];subst hd;simp[ajB,run_underlying hu,Result.andThen]
theorem aeh{kd:jD}{k q:AV}{u v:Value}(hfl:kd.flat=true)(hf:bw kd k=true)(hk:VR E k u)(hq:VR E q v)(h:Fs k q=some true)(n:Nat):Instr.sameBits n v u=true:=by
 cases kd<;>try (cases hfl;done)
 all_goals cases k<;>simp only[bw,ajK]at hf<;>cases q<;>simp only[Fs,reduceCtorEq]at h<;>simp only[VR]at hk hq<;>subst hk<;>subst hq
 split at h<;>simp only[ajt,reduceCtorEq,decide_eq_true_eq]at h;rename_i e;subst e;subst h;simp[Instr.sameBits];simp only[ajt,decide_eq_true_eq]at h;subst h;simp[Instr.sameBits,bytes_beq];simp only[ajt,decide_eq_true_eq]at h;subst h;simp[Instr.sameBits]
theorem UT{kd:jD}{d:TypeDesc}{k:AV}{u:Value}(hd:kd.desc d)(hfl:kd.flat=true)(hf:bw kd k=true)(hk:VR E k u):∀{es:List (AV×AV×Nat)}{rs:List MapEntry}{i:Nat}{r:Option (Nat×AV)},aE E es rs->cY k es i=some r ->
  match r with
  |none=>Instr.findNow d u rs i=some none
  |some (j,x)=>∃j0 e q b,j=i+j0/\Instr.findNow d u rs i=some (some (i+j0,e.val))/\rs[j0]?=some e/\es[j0]?=some (q,x,b)/\VR E x e.val/\VR E q e.key/\Fs k q=some true
 |[],rs,i,r,hm,h=>by simp only[aE]at hm;subst hm;simp only[cY,ajt]at h;subst h;rfl
 | (q,x,b)::l,rs,i,r,hm,h=>by
   obtain⟨e,t,rfl,h1,h2,h3,h4⟩:=hm;simp only[cY]at h;split at h
   .rename_i hq;simp only[ajt]at h;subst h;have:=WT hd hfl hf hk h1 hq;exact⟨0,e,q,b,rfl,by simp[Instr.findNow,this],rfl,rfl,h2,h1,hq⟩
   .rename_i hq;have h0:=WT hd hfl hf hk h1 hq;have ih:=UT hd hfl hf hk h4 h;cases r with
    |none=>simp only at ih⊢;simp[Instr.findNow,h0,ih]
    | some p =>
      obtain⟨j,y⟩:=p;obtain⟨j0,e',q',b',rfl,g1,g2,g3,g4⟩:=ih;exact⟨j0+1,e',q',b',amM,by simp[Instr.findNow,h0,g1];omega,by simpa using g2,by simpa using g3,g4⟩
   .cases h
theorem agz{t:TypeId}{k:yB}(h:Z9 P t=some k)(e:Bool)(n:Nat)(v:Value)(w:World):(Instr.checkKey e (n+1) t v).run P w=.ok () w:=by unfold Instr.checkKey;rcases RB h with⟨_,q,hu⟩|⟨_,hu⟩|⟨_,hu⟩<;>simp[ajB,run_underlying hu,Result.andThen]
theorem aeT{kt:TypeId}{ks:List yB}{fs:Array Field}{cs:Array Value}(hu:P.underlying kt=some (.struct fs))(hf:JR P 0 fs.toList ks)(hc:ks.length<=cs.size)(e:Bool)(n:Nat)(w:World):
  (Instr.checkKey e (n+2) kt (.agg cs)).run P w=.ok () w:=by
 have key:∀ (l:List Field) (ks:List yB) (i:Nat),JR P i l ks->i+ks.length<=cs.size->∀ (body:Field->PUnit->Sem (ForInStep PUnit)),(∀ f u,body f u=if f.name ≠ "_" then (do let x <- part f.type cs f.offset;Instr.checkKey e (n+1) f.type x;pure (ForInStep.yield PUnit.unit)) else pure (ForInStep.yield PUnit.unit))->(forIn l PUnit.unit body).run P w=.ok PUnit.unit w:=by
  intro l;induction l with
  |nil=>intro ks i _ _ body _;simp
  | cons f l ih =>
    intro ks i h hs body hb;cases ks with
    |nil=>simp[JR]at h
    | cons k ks =>
      obtain⟨h1,h2,h3,h4⟩:=h;simp only[ajz]at hs;obtain⟨v,hv⟩:∃v,cs[i]?=some v:=⟨_,akq amM⟩;rw[List.forIn_cons,hb,if_pos h2,h1];simp only[ajB,ZZ h3 hv,agz h3,ajC,aj2]
      grind
 unfold Instr.checkKey;simp only[ajB,run_underlying hu,ajC];have:=key fs.toList ks 0 hf amM _ (λf u=>rfl);simp_all
theorem Ta{kt:TypeId}{ks:List yB}{fs:Array Field}(hu:P.underlying kt=some (.struct fs))(hs:P.stoodInHeld kt=false)(hf:JR P 0 fs.toList ks){l:List AV}{u:Value}(hp:p0 ks l=true)(hk:VR E (.agg l) u)(w:World):∀{es:List (AV×AV×Nat)}{rs:List MapEntry}{i:Nat}{r:Option (Nat×AV)},aE E es rs->cY (.agg l) es i=some r ->
  match r with
  |none=>(Instr.findAsking kt u rs i).run P w=.ok none w
  |some (j,x)=>∃j0 e q b,j=i+j0/\(Instr.findAsking kt u rs i).run P w=.ok (some (i+j0,e.val)) w/\rs[j0]?=some e/\es[j0]?=some (q,x,b)/\VR E x e.val/\VR E q e.key/\Fs (.agg l) q=some true
 |[],rs,i,r,hm,h=>by simp only[aE]at hm;subst hm;simp only[cY,ajt]at h;subst h;rfl
 | (q,x,b)::es,rs,i,r,hm,h=>by
   obtain⟨e,t,rfl,h1,h2,h3,h4⟩:=hm;simp only[cY]at h;split at h
   .rename_i hq;simp only[ajt]at h;subst h;have:=Vj hu hs hf hp hk h1 hq w;exact⟨0,e,q,b,rfl,by simp[Instr.findAsking,this],rfl,rfl,h2,h1,hq⟩
   .rename_i hq;have h0:=Vj hu hs hf hp hk h1 hq w;have ih:=Ta hu hs hf hp hk w h4 h;cases r with
    |none=>simp only at ih⊢;simp[Instr.findAsking,h0,ih]
    | some p =>
      obtain⟨j,y⟩:=p;obtain⟨j0,e',q',b',rfl,g1,g2,g3,g4⟩:=ih;exact⟨j0+1,e',q',b',amM,by simp[Instr.findAsking,h0,g1];omega,by simpa using g2,by simpa using g3,g4⟩
   .cases h
theorem aeY:∀{l m:List AV}{us vs:List Value}{ks:List yB}(n:Nat),p0 ks l=true->VRL E l us->VRL E m vs->Fi l m=some true->us.length=vs.length/\((vs.zip us).all λ(x,y)=>Instr.sameBits n x y)=true
 | [],m,us,vs,ks,n,hp,hl,hm,hq=>by
   cases m with
   |cons b m=>simp[Fi]at hq
   |nil=>simp only[VRL]at hl hm;subst hl;subst hm;simp
 | a::l,m,us,vs,ks,n,hp,hl,hm,hq=>by
   cases m with
   |nil=>simp[Fi]at hq
   | cons b m =>
     cases ks with
     |nil=>simp[p0]at hp
     | cons k ks =>
       simp only[p0,ajv]at hp;obtain⟨u,us',rfl,hu,hus⟩:=hl;obtain⟨v,vs',rfl,hv,hvs⟩:=hm;simp only[Fi]at hq;cases hk:UY a b with
       |none=>rw[hk]at hq;cases hq
       | some c =>
         rw[hk]at hq;cases c with
         |false=>simp at hq
         | true =>
           obtain⟨i1,i2⟩:=aeY n hp.2 hus hvs hq;refine⟨by simp[i1],?_⟩;simp only[List.zip_cons_cons,akL,i2,alw];cases a<;>cases b<;>simp only[UY,reduceCtorEq]at hk<;>simp only[VR]at hu hv<;>subst hu<;>subst hv
           .simp only[ajt,decide_eq_true_eq]at hk;subst hk;simp[Instr.sameBits]
           .split at hk<;>simp only[ajt,reduceCtorEq,decide_eq_true_eq]at hk;rename_i e;subst e;subst hk;simp[Instr.sameBits]
           .simp only[ajt,decide_eq_true_eq]at hk;subst hk;simp[Instr.sameBits,bytes_beq]
theorem ki{kd:jD}{kt:TypeId}{k:AV}{u:Value}(hkd:fV P kt=some kd)(hf:bw kd k=true)(hk:VR E k u)(e:Bool):(Instr.checkKey e 10000 kt u).run P w=.ok () w:=by
 cases hfl:kd.flat with
 | true =>
   obtain⟨d,h1,h2⟩:=SY hkd hfl;exact acl h1 h2 hf hk e 9999
 | false =>
   cases kd<;>simp only[jD.flat,reduceCtorEq]at hfl;obtain⟨fs,h1,h2,h3⟩:=RC hkd;cases k<;>simp only[bw,ajK]at hf;obtain⟨us,rfl,hus⟩:=hk;exact aeT h1 h3 (by rw[WJ hf];simp[hus.length]) e 9998 w
theorem acm{kd:jD}{k q:AV}{u v:Value}(hf:bw kd k=true)(hk:VR E k u)(hq:VR E q v)(h:Fs k q=some true):Instr.sameBits 10000 v u=true:=by
 cases hfl:kd.flat with
 |true=>exact aeh hfl hf hk hq h 10000
 | false =>
   cases kd<;>simp only[jD.flat,reduceCtorEq]at hfl;cases k<;>simp only[bw,ajK]at hf;cases q<;>simp only[Fs,reduceCtorEq]at h;obtain⟨us,rfl,hus⟩:=hk;obtain⟨vs,rfl,hvs⟩:=hq;obtain⟨i1,i2⟩:=aeY 9999 hf hus hvs h;simp only[Instr.sameBits,i2,alw];simp[i1]
theorem xy{kd:jD}{kt:TypeId}{k:AV}{u:Value}(hkd:fV P kt=some kd)(hf:bw kd k=true)(hk:VR E k u){es:List (AV×AV×Nat)}{rs:List MapEntry}{r:Option (Nat×AV)}(hm:aE E es rs)(h:cY k es 0=some r)(w:World):
  match r with
  |none=>(Instr.findKey kt u rs).run P w=.ok none w
  |some (j,x)=>∃e q b,(Instr.findKey kt u rs).run P w=.ok (some (j,e.val)) w/\rs[j]?=some e/\es[j]?=some (q,x,b)/\VR E x e.val/\VR E q e.key/\Fs k q=some true:=by
 cases hfl:kd.flat with
 | true =>
   obtain⟨d,h1,h2⟩:=SY hkd hfl;have hs:=UT h2 hfl hf hk hm h;cases r with
   |none=>exact run_findKey h1 hs
   | some p =>
     obtain⟨j,x⟩:=p;obtain⟨j0,e,q,b,rfl,g1,g2,g3,g4⟩:=hs;exact⟨e,q,b,by have:=run_findKey (P:=P) (w:=w) h1 g1;exact this,by simpa using g2,by simpa using g3,g4⟩
 | false =>
   cases kd<;>simp only[jD.flat,reduceCtorEq]at hfl;obtain⟨fs,h1,h2,h3⟩:=RC hkd;cases k<;>simp only[bw,ajK]at hf;have hs:=Ta h1 h2 h3 hf hk w hm h;have hfk:(Instr.findKey kt u rs).run P w=(Instr.findAsking kt u rs 0).run P w:=by
    simp only[Instr.findKey,ajB,run_underlying h1,ajC];cases rs with
    |nil=>simp[Instr.findNow,Instr.findAsking]
    |cons e rs=>simp[Instr.findNow,Instr.sameNow]
   grind
theorem aas{t kt et:TypeId}(hR:Rel w0 S0 E L w)(hd:P.underlying t=some (.map kt et)):cS P w0 S0 E (L++[.map [] 0]) (.lmap L.length) w (Instr.makeMap t none):=by have:=hR.push (.map #[] 0) (.map [] 0) ⟨w.heap.size,0,0⟩ rfl rfl ⟨⟨w.heap.size,0,0⟩,#[],amN,amN,rfl⟩;refine⟨_,.map (some w.heap.size),_,?_,this.1,?_,this.2⟩;rfl;simp only[VR];simp
theorem Yb{t:TypeId}{a:AV}(h:ac5 P t=some a):∃v,(∀w,(zeroValue t).run P w=.ok v w)/\VR E a v:=by unfold ac5 at h;simp only[alx]at h;obtain⟨v,⟨i,h1,h2⟩,h3⟩:=h;exact⟨v,λw=>by simp[zeroValue,typeInfo,h1,h2],UU h3⟩
theorem T6(hR:Rel w0 S0 E L w){i:Nat}{es:List (AV×AV×Nat)}{ck:Nat}{u:Value}(hi:L[i]?=some (.map es ck))(hv:VR E (.lmap i) u):
  ∃c rs,E.loc i=some c/\u=.map (some c.blk)/\w.heap[c.blk]?=some (.map rs ck)/\aE E es rs.toList:=by
 simp only[VR]at hv;obtain⟨c',rs,h1,h2,h3⟩:=hR.blk i _ hi;simp_all
theorem aat{t kt et:TypeId}{kd:jD}{z k:AV}{u v:Value}(ok:Bool)(hR:Rel w0 S0 E L w)(hd:P.underlying t=some (.map kt et))(hkd:fV P kt=some kd)(hz:ac5 P et=some z)(hu:VR E .nilmap u)(hf:bw kd k=true)(hk:VR E k v):
  cS P w0 S0 E L (if ok then .tup [z,.bool false]else z) w (Instr.lookup t u v ok):=by
 simp only[VR]at hu;subst hu;obtain⟨zv,h3,h4⟩:=Yb (E:=E) hz;have hc:∀e,(Instr.checkKey e 10000 kt v).run P w=.ok () w:=λe=>ki hkd hf hk e
 have hfk:(Instr.findKey kt v []).run P w=.ok none w:=xy (E:=E) (es:=[]) (r:=none) hkd hf hk (by simp[aE]) (by simp[cY]) w;refine .same hR (v:=if ok then .tuple #[zv,.bool false]else zv) ?_ ?_
 .simp[Instr.lookup,run_underlying hd,hc,hfk,h3]
  try (cases ok<;>rfl)
 cases ok;simp[*];simp only[if_true,VR];exact⟨[zv,.bool false],rfl,by simp[VRL,VR,h4]⟩
theorem acx{t kt et:TypeId}{kd:jD}{z k av:AV}{u v:Value}{i ck:Nat}{es:List (AV×AV×Nat)}{r:Option (Nat×AV)}(ok:Bool)(hR:Rel w0 S0 E L w)(hd:P.underlying t=some (.map kt et))(hkd:fV P kt=some kd)(hz:ac5 P et=some z)(hi:L[i]?=some (.map es ck))(hu:VR E (.lmap i) u)(hf:bw kd k=true)(hk:VR E k v)(hm:cY k es 0=some r)(hav:av=match r with|some (_,x)=>if ok then .tup [x,.bool true]else x|none=>if ok then .tup [z,.bool false]else z):
  cS P w0 S0 E L av w (Instr.lookup t u v ok):=by
 obtain⟨c,rs,hc,rfl,hb,hmr⟩:=T6 hR hi hu;obtain⟨zv,h3,h4⟩:=Yb (E:=E) hz;have hck:∀e,(Instr.checkKey e 10000 kt v).run P w=.ok () w:=λe=>ki hkd hf hk e
 have hg:(getObj c.blk).run P w=.ok (.map rs ck) w:=by simp[getObj,Sem.run,hb]
 have hs:=xy hkd hf hk hmr hm w;cases r with
 | none =>
   subst hav;have hfk:(Instr.findKey kt v rs.toList).run P w=.ok none w:=hs;refine .same hR (v:=if ok then .tuple #[zv,.bool false]else zv) ?_ ?_
   .simp[Instr.lookup,run_underlying hd,hg,hck,hfk,h3]
    try (cases ok<;>rfl)
   .cases ok
    .simp[*]
    .simp only[if_true,VR];exact⟨[zv,.bool false],rfl,by simp[VRL,VR,h4]⟩
 | some p =>
   obtain⟨j,x⟩:=p;subst hav;obtain⟨e,q,b,hfk,g2,g3,g4,_⟩:=hs;refine .same hR (v:=if ok then .tuple #[e.val,.bool true]else e.val) ?_ ?_
   .simp[Instr.lookup,run_underlying hd,hg,hck,hfk]
    try (cases ok<;>rfl)
   .cases ok
    .simp[*]
    .simp only[if_true,VR];exact⟨[e.val,.bool true],rfl,by simp[VRL,VR,g4]⟩
theorem aE.app{es:List (AV×AV×Nat)}{k x:AV}{e:MapEntry}:∀{rs:List MapEntry},aE E es rs->VR E k e.key->VR E x e.val->aE E (es++[(k,x,e.born)]) (rs++[e]):=by
 induction es with
 |nil=>intro rs h hk hx;simp only[aE]at h;subst h;exact⟨e,[],rfl,hk,hx,rfl,rfl⟩
 | cons p es ih =>
   intro rs h hk hx;obtain⟨q,y,b⟩:=p;obtain⟨f,t,rfl,g1,g2,g3,g4⟩:=h;exact⟨f,t++[e],rfl,g1,g2,g3,ih g4 hk hx⟩
theorem aE.put{k x:AV}{u v:Value}(hk:VR E k u)(hx:VR E x v):∀{es:List (AV×AV×Nat)}{rs:List MapEntry}{j:Nat},aE E es rs->aE E (ad8 k x es j) (rs.modify j λe=>{e with key:=u,val:=v})
 |[],rs,j,h=>by simp only[aE]at h;subst h;simp[ad8,aE]
 |(q,y,b)::es,rs,0,h=>by obtain⟨f,t,rfl,g1,g2,g3,g4⟩:=h;exact⟨{f with key:=u,val:=v},t,rfl,hk,hx,g3,g4⟩
 |(q,y,b)::es,rs,j+1,h=>by obtain⟨f,t,rfl,g1,g2,g3,g4⟩:=h;exact⟨f,t.modify j λe=>{e with key:=u,val:=v},amN,g1,g2,g3,aE.put hk hx (j:=j) g4⟩
theorem acw{t kt et:TypeId}{kd:jD}{k x:AV}{u v y:Value}{i ck:Nat}{es:List (AV×AV×Nat)}{r:Option (Nat×AV)}(hR:Rel w0 S0 E L w)(hd:P.underlying t=some (.map kt et))(hkd:fV P kt=some kd)(hi:L[i]?=some (.map es ck))(hu:VR E (.lmap i) u)(hf:bw kd k=true)(hk:VR E k v)(hx:VR E x y)(hm:cY k es 0=some r):∃w',(Instr.mapUpdate t u v y).run P w=.ok () w'/\Rel w0 S0 E (L.set i (match r with|some (j,_)=>.map (ad8 k x es j) ck|none=>.map (es++[(k,x,ck)]) (ck+1))) w':=by
 obtain⟨c,rs,hc,rfl,hb,hmr⟩:=T6 hR hi hu;have hck:∀e,(Instr.checkKey e 10000 kt v).run P w=.ok () w:=λe=>ki hkd hf hk e
 have hg:(getObj c.blk).run P w=.ok (.map rs ck) w:=by simp[getObj,Sem.run,hb]
 have hs:=xy hkd hf hk hmr hm w;have hlt:c.blk<w.heap.size:=(akf.1 hb).1;have hso:∀o,(setObj c.blk o).run P w=.ok () {w with heap:=w.heap.setIfInBounds c.blk o}:=λo=>by simp[setObj,Sem.run,hb]
 have turn:∀rs' ck' es',aE E es' (rs':Array MapEntry).toList->Rel w0 S0 E (L.set i (.map es' ck')) {w with heap:=w.heap.setIfInBounds c.blk (.map rs' ck')}:=λrs' ck' es' hm' =>
  hR.turn (w':={w with heap:=w.heap.setIfInBounds c.blk (.map rs' ck')}) (k':=.map es' ck') hi rfl hc amN (λb hb=>by simp[al1,Ne.symm hb]) rfl rfl rfl
   ⟨c,rs',hc,by simp[hlt],hm'⟩ (λ_ _ e=>by cases e)
 cases r with
 | none =>
   have hfk:(Instr.findKey kt v rs.toList).run P w=.ok none w:=hs;refine⟨_,?_,turn (rs.push {key:=v,val:=y,born:=ck}) (ck+1) _ (by simpa using aE.app (e:={key:=v,val:=y,born:=ck}) hmr hk hx)⟩;simp[Instr.mapUpdate,run_underlying hd,hg,hck,hfk,hso]
 | some p =>
   obtain⟨j,z⟩:=p;obtain⟨e,q,b,hfk,g2,g3,g4,g5,g6⟩:=hs;have hst:(Instr.keyThatStays e.key v).run P w=.ok v w:=by simp[Instr.keyThatStays,acm hf hk g5 g6]
   have hget:rs[j]?=some e:=(by simpa using g2);refine⟨_,?_,turn (rs.modify j λe=>{e with key:=v,val:=y}) ck _ (by simpa using aE.put hk hx (j:=j) hmr)⟩;simp[Instr.mapUpdate,run_underlying hd,hg,hck,hfk,hget,hst,hso]
end
open Go Go.MapKept
section
variable {P:Program}{w0:World}{S0:SB}{E:Env}{L:List Blk}{w:World}{T:Tm}{a:Act}
theorem aE.filt{p:Nat->Bool}:∀{es:List (AV×AV×Nat)}{rs:List MapEntry},aE E es rs->aE E (es.filter λe=>p e.2.2) (rs.filter λe=>p e.born)
 |[],rs,h=>by simp only[aE]at h;subst h;rfl
 | (k,x,b)::es,rs,h=>by
   obtain⟨f,t,rfl,g1,g2,g3,g4⟩:=h;have ih:=aE.filt (p:=p) g4;subst g3;simp only[alM];split
   .exact⟨f,_,rfl,g1,g2,rfl,ih⟩
   omega
theorem aE.all{p:Nat->Bool}:∀{es:List (AV×AV×Nat)}{rs:List MapEntry},aE E es rs->(rs.all λe=>p e.born)=es.all λe=>p e.2.2
 |[],rs,h=>by simp only[aE]at h;subst h;rfl
 |(k,x,b)::es,rs,h=>by obtain⟨f,t,rfl,g1,g2,g3,g4⟩:=h;subst g3;simp only[akL,aE.all (p:=p) g4]
theorem aE.nil_iff{es:List (AV×AV×Nat)}{rs:List MapEntry}(h:aE E es rs):rs.isEmpty=es.isEmpty:=by
 cases es with
 |nil=>simp only[aE]at h;subst h;rfl
 |cons p es=>obtain⟨k,x,b⟩:=p;obtain⟨f,t,rfl,_⟩:=h;rfl
theorem aE.len:∀{es:List (AV×AV×Nat)}{rs:List MapEntry},aE E es rs->rs.length=es.length
 |[],rs,h=>by simp only[aE]at h;subst h;rfl
 |(k,x,b)::es,rs,h=>by obtain⟨f,t,rfl,_,_,_,g4⟩:=h;simp[aE.len g4]
theorem XK{t kt et:TypeId}{v:Value}(hR:Rel w0 S0 E L w)(hd:P.underlying t=some (.map kt et))(hv:VR E .nilmap v):
  cS P w0 S0 E (L++[.miter none 0 [] 0]) (.ptr L.length 0) w (Instr.range t v):=by
 simp only[VR]at hv;subst hv;have:=hR.push (.mapIter none 0 #[] 0) (.miter none 0 [] 0) ⟨w.heap.size,0,0⟩ rfl rfl ⟨⟨w.heap.size,0,0⟩,none,amN,amN,rfl,rfl⟩;refine⟨_,.pointer (some ⟨w.heap.size,0,none⟩),_,?_,this.1,?_,this.2⟩;simp[Instr.range,run_underlying hd];simp only[VR];exact⟨⟨w.heap.size,0,0⟩,amN,rfl⟩
theorem Y5{t kt et:TypeId}{v:Value}{i ck:Nat}{es:List (AV×AV×Nat)}(hR:Rel w0 S0 E L w)(hd:P.underlying t=some (.map kt et))(hi:L[i]?=some (.map es ck))(hv:VR E (.lmap i) v):
  cS P w0 S0 E (L++[.miter (some i) ck [] ck]) (.ptr L.length 0) w (Instr.range t v):=by
 obtain⟨c,rs,hc,rfl,hb,hmr⟩:=T6 hR hi hv;have hlt:i<L.length:=(ajr.1 hi).1;have:=hR.push (.mapIter (some c.blk) ck #[] ck) (.miter (some i) ck [] ck) ⟨w.heap.size,0,0⟩ rfl rfl ⟨⟨w.heap.size,0,0⟩,some c.blk,amN,amN,rfl,c,by simp only;rw[if_neg amM];exact hc,rfl⟩;refine⟨_,.pointer (some ⟨w.heap.size,0,none⟩),_,?_,this.1,?_,this.2⟩;have hg:(getObj c.blk).run P w=.ok (.map rs ck) w:=by simp[getObj,Sem.run,hb]
 simp[Instr.range,run_underlying hd,hg];simp only[VR];exact⟨⟨w.heap.size,0,0⟩,amN,rfl⟩
theorem aar{t:TypeId}{v:Value}{i j ck since last:Nat}{seen:List Nat}{es:List (AV×AV×Nat)}{r:Option (AV×AV×Nat)}(hR:Rel w0 S0 E L w)(hi:L[i]?=some (.miter (some j) since seen last))(hj:L[j]?=some (.map es ck))(hv:VR E (.ptr i 0) v)(hs:ad7 es since seen last=some r):
  cS P w0 S0 E (WM L i j since seen ck r) (QW r) w (Instr.next v false t):=by
 obtain⟨c,hc,rfl⟩:=hv;obtain⟨c',q,h1,h2,h3,d,h4,rfl⟩:=hR.blk i _ hi;rw[hc]at h1;cases h1;obtain⟨d',rs,g1,g2,g3⟩:=hR.blk j _ hj;rw[h4]at g1;cases g1;have hlt:c.blk<w.heap.size:=(akf.1 h2).1;have hg:(getObj c.blk).run P w=.ok (.mapIter (some d.blk) since ⟨seen⟩ last) w:=by simp[getObj,Sem.run,h2]
 have hg2:(getObj d.blk).run P w=.ok (.map rs ck) w:=by simp[getObj,Sem.run,g2]
 have hso:∀o,(setObj c.blk o).run P w=.ok () {w with heap:=w.heap.setIfInBounds c.blk o}:=λo=>by simp[setObj,Sem.run,h2]
 rw[h3];unfold ad7 at hs;split at hs;simp_all;rename_i hguard;have hguard':(!(⟨seen⟩:Array Nat).isEmpty && !rs.isEmpty&&rs.all λe=>decide (e.born≥last))=false:=by
  have e2:rs.isEmpty=es.isEmpty:=(by rw[<- g3.nil_iff];simp);have e3:(rs.all λe=>decide (e.born≥last))=es.all λe=>decide (last<=e.2.2):=by rw[<- aE.all (p:=λb=>decide (last<=b)) g3];simp
  simp[*]
 have hleft:=aE.filt (p:=λb => !seen.contains b) g3;have hold:=aE.filt (p:=λb=>decide (b<since)) hleft;have hnew:=aE.filt (p:=λb=>decide (since<=b)) hleft;have fl:∀p:MapEntry->Bool,(rs.filter λe => !(⟨seen⟩:Array Nat).contains e.born).filter p=⟨(rs.toList.filter λe => !seen.contains e.born).filter p⟩:=λp=>by apply Array.toList_inj.1;simp
 split at hs;rename_i ho hn;simp only[ajt]at hs;subst hs;rw[ho]at hold;rw[hn]at hnew;refine .same hR (v:=.tuple #[.bool false]) ?_ (by simp[QW,VR,VRL]);have hold':((rs.filter λe => !(⟨seen⟩:Array Nat).contains e.born).filter λe=>decide (e.born<since))=#[]:=by rw[fl,hold]
 have hnew':((rs.filter λe => !(⟨seen⟩:Array Nat).contains e.born).filter λe=>decide (e.born≥since))=#[]:=by rw[fl];exact congrArg Array.mk hnew
 simp only[Instr.next,ajB,hg,hg2,ajC,hguard',ajK,if_false,hold',hnew'];simp[Question.forced];rename_i e ho hn;simp only[ajt]at hs;subst hs;rw[ho]at hold;rw[hn]at hnew;obtain⟨k,x,b⟩:=e;obtain⟨f,s,hf,k1,k2,k3,rfl⟩:=hold;subst k3;have hold':((rs.filter λe => !(⟨seen⟩:Array Nat).contains e.born).filter λe=>decide (e.born<since))=#[f]:=by rw[fl,hf]
 have hnew':((rs.filter λe => !(⟨seen⟩:Array Nat).contains e.born).filter λe=>decide (e.born≥since))=#[]:=by rw[fl];exact congrArg Array.mk hnew
 have turn:=hR.turn (w':={w with heap:=w.heap.setIfInBounds c.blk (.mapIter (some d.blk) since ((⟨seen⟩:Array Nat).push f.born) ck)}) (k':=.miter (some j) since (seen++[f.born]) ck) hi rfl hc amN (λb hb=>by simp[al1,Ne.symm hb]) rfl rfl rfl
  ⟨c,some d.blk,hc,by simp[hlt],h3,d,h4,rfl⟩ (λ_ _ e=>by cases e)
 refine⟨E,.tuple #[.bool true,f.key,f.val],_,?_,.refl E,?_,turn⟩;simp only[Instr.next,ajB,hg,hg2,ajC,hguard',ajK,if_false,hold',hnew'];simp[Question.forced,hso];exact⟨[.bool true,f.key,f.val],rfl,.bool true,[f.key,f.val],rfl,rfl,f.key,[f.val],rfl,k1,f.val,[],rfl,k2,rfl⟩;cases hs
theorem Y6{t:TypeId}{v:Value}{i since last:Nat}{seen:List Nat}(hR:Rel w0 S0 E L w)(hi:L[i]?=some (.miter none since seen last))(hv:VR E (.ptr i 0) v):
  cS P w0 S0 E L (.tup [.bool false]) w (Instr.next v false t):=by
 obtain⟨c,hc,rfl⟩:=hv;obtain⟨c',q,h1,h2,h3,h4⟩:=hR.blk i _ hi;rw[hc]at h1;cases h1;simp only[MIt]at h4;subst h4;have hg:(getObj c.blk).run P w=.ok (.mapIter none since ⟨seen⟩ last) w:=by simp[getObj,Sem.run,h2]
 rw[h3];exact .same hR (v:=.tuple #[.bool false]) (by simp[Instr.next,hg]) (by simp[VR,VRL])
theorem aE.fnd{b:Nat}:∀{es:List (AV×AV×Nat)}{rs:List MapEntry}{e:AV×AV×Nat},aE E es rs->es.find? (λe=>Nat.beq e.2.2 b)=some e->∃f,rs.find? (λe=>e.born == b)=some f/\VR E e.1 f.key/\VR E e.2.1 f.val
 |[],rs,e,h,he=>by simp at he
 | (k,x,c)::es,rs,e,h,he=>by
   obtain⟨f,t,rfl,g1,g2,g3,g4⟩:=h;subst g3;simp only[aln]at he⊢;have e1:(f.born == b)=Nat.beq f.born b:=by
    cases hh:Nat.beq f.born b with
    |true=>rw[Nat.eq_of_beq_eq_true hh];simp
    | false =>
      have:f.born≠b:=λe=>by rw[e,Nat.beq_refl]at hh;cases hh
      simp[*]
   rw[e1];split at he
   .grind
   .rename_i hb;exact aE.fnd g4 he
theorem Y7{v:Value}{i j ck since stepped:Nat}{seen:List Nat}{es:List (AV×AV×Nat)}{e:AV×AV×Nat}(hR:Rel w0 S0 E L w)(hi:L[i]?=some (.miter (some j) since seen stepped))(hj:L[j]?=some (.map es ck))(hv:VR E (.ptr i 0) v)(hs:mat es ck seen stepped=some e):cS P w0 S0 E L (.tup [e.1,e.2.1]) w (Instr.entry v):=by
 obtain⟨c,hc,rfl⟩:=hv;obtain⟨c',q,h1,h2,h3,d,h4,rfl⟩:=hR.blk i _ hi;rw[hc]at h1;cases h1;obtain⟨d',rs,g1,g2,g3⟩:=hR.blk j _ hj;rw[h4]at g1;cases g1;have hg:(getObj c.blk).run P w=.ok (.mapIter (some d.blk) since ⟨seen⟩ stepped) w:=by simp[getObj,Sem.run,h2]
 have hg2:(getObj d.blk).run P w=.ok (.map rs ck) w:=by simp[getObj,Sem.run,g2]
 unfold mat at hs;split at hs;rename_i b hb;split at hs;rename_i hck;obtain⟨f,k1,k2,k3⟩:=aE.fnd g3 hs;have hback:(⟨seen⟩:Array Nat).back?=some b:=by rw[List.getLast?_eq_getElem?]at hb;simpa[Array.back?]using hb
 have hf:rs.find? (λe=>e.born == b)=some f:=by rw[<- k1];simp
 rw[h3];refine .same hR (v:=.tuple #[f.key,f.val]) ?_ (by simp only[VR,VRL];exact⟨[f.key,f.val],rfl,f.key,[f.val],rfl,k2,f.val,[],rfl,k3,rfl⟩);simp[Instr.entry,hg,hg2,hback,hck,hf];simp_all;simp_all
theorem aE.del:∀{es:List (AV×AV×Nat)}{rs:List MapEntry}{j:Nat},aE E es rs->aE E (es.eraseIdx j) (rs.eraseIdx j)
 |[],rs,j,h=>by simp only[aE]at h;subst h;simp[aE]
 |(k,x,b)::es,rs,0,h=>by obtain⟨f,t,rfl,_,_,_,g4⟩:=h;simpa using g4
 |(k,x,b)::es,rs,j+1,h=>by obtain⟨f,t,rfl,g1,g2,g3,g4⟩:=h;exact⟨f,t.eraseIdx j,amN,g1,g2,g3,aE.del g4⟩
theorem acy{t kt et t' ty:TypeId}{kd:jD}{k:AV}{u v:Value}{i ck:Nat}{cs:Array Bool}{es:List (AV×AV×Nat)}{r:Option (Nat×AV)}(hR:Rel w0 S0 E L w)(hd:P.underlying t=some (.map kt et))(hkd:fV P kt=some kd)(hi:L[i]?=some (.map es ck))(hu:VR E (.lmap i) u)(hf:bw kd k=true)(hk:VR E k v)(hm:cY k es 0=some r):∃w',(builtin .delete ⟨[t,t']⟩ ty cs ⟨[u,v]⟩).run P w=.ok (.value (.tuple #[])) w'/\Rel w0 S0 E (L.set i (match r with|some (j,_)=>.map (es.eraseIdx j) ck|none=>.map es ck)) w':=by
 obtain⟨c,rs,hc,rfl,hb,hmr⟩:=T6 hR hi hu;have hck:∀e,(Instr.checkKey e 10000 kt v).run P w=.ok () w:=λe=>ki hkd hf hk e
 have hg:(getObj c.blk).run P w=.ok (.map rs ck) w:=by simp[getObj,Sem.run,hb]
 have hs:=xy hkd hf hk hmr hm w;have hlt:c.blk<w.heap.size:=(akf.1 hb).1;have hso:∀o,(setObj c.blk o).run P w=.ok () {w with heap:=w.heap.setIfInBounds c.blk o}:=λo=>by simp[setObj,Sem.run,hb]
 have turn:∀rs' ck' es',aE E es' (rs':Array MapEntry).toList->Rel w0 S0 E (L.set i (.map es' ck')) {w with heap:=w.heap.setIfInBounds c.blk (.map rs' ck')}:=λrs' ck' es' hm' =>
  hR.turn (w':={w with heap:=w.heap.setIfInBounds c.blk (.map rs' ck')}) (k':=.map es' ck') hi rfl hc amN (λb hb=>by simp[al1,Ne.symm hb]) rfl rfl rfl
   ⟨c,rs',hc,by simp[hlt],hm'⟩ (λ_ _ e=>by cases e)
 cases r with
 | none =>
   have hfk:(Instr.findKey kt v rs.toList).run P w=.ok none w:=hs;refine⟨_,?_,turn rs ck es hmr⟩;simp[builtin,Builtin.delete_,run_underlying hd,hg,hck,hfk,hso]
 | some p =>
   obtain⟨j,z⟩:=p;obtain⟨e,q,b,hfk,g2,g3,g4,g5,g6⟩:=hs;refine⟨_,?_,turn (rs.eraseIdxIfInBounds j) ck (es.eraseIdx j) (by simpa using aE.del hmr)⟩;simp[builtin,Builtin.delete_,run_underlying hd,hg,hck,hfk,hso]
theorem aau{t kt et t' ty:TypeId}{kd:jD}{k:AV}{u v:Value}{cs:Array Bool}(hR:Rel w0 S0 E L w)(hd:P.underlying t=some (.map kt et))(hkd:fV P kt=some kd)(hu:VR E .nilmap u)(hf:bw kd k=true)(hk:VR E k v):
  (builtin .delete ⟨[t,t']⟩ ty cs ⟨[u,v]⟩).run P w=.ok (.value (.tuple #[])) w:=by
 simp only[VR]at hu;subst hu;have hck:∀e,(Instr.checkKey e 10000 kt v).run P w=.ok () w:=λe=>ki hkd hf hk e
 simp[builtin,Builtin.delete_,run_underlying hd,hck]
theorem afM{own:Nat}{ts:List TypeId}{xs:List Operand}{ys:List Opd}{ty:TypeId}{cs:Array Bool}{lo:LOp}{c:Prop}{av:AV}{L':List Blk}(hR:Rel w0 S0 E L w)(hT:TR E T a)(hx:lV xs=some ys)(hl:db P own .delete ts ys=some lo)(he:au T L lo=some (c,av,L')):ez P w0 S0 E L' av w (builtin .delete ⟨ts⟩ ty cs ⟨xs.map a.eval⟩):=by
 unfold db at hl;split at hl<;>try (rename_i h0;cases h0)
 rename_i t t' m k _;obtain⟨x,y,rfl,hu,hv⟩:=Zp hx;split at hl<;>try cases hl
 rename_i kt et hd;rcases h4:fV P kt with _|kd<;>simp[h4]at hl;subst hl;simp only[au]at he;split at he<;>try cases he
 rename_i kv h5 h6;split at he<;>cases he;rename_i hf;exact .same hR (v:=.tuple #[]) (aau hR hd h4 (ao hu h5 hT) hf (ao hv h6 hT)) (by simp[VR,VRL]);rename_i i kv h5 h6;split at he<;>try cases he
 rename_i es ck h8;split at he<;>try cases he
 rename_i hf;have go:=λr hm=>acy (P:=P) (t':=t') (ty:=ty) (cs:=cs) (r:=r) hR hd h4 h8 (ao hu h5 hT) hf (ao hv h6 hT) hm
 split at he<;>cases he;rename_i j y' hm;obtain⟨w',g1,g2⟩:=go _ hm;exact⟨E,.tuple #[],w',.inl g1,.refl E,by simp[VR,VRL],g2⟩;rename_i hm;obtain⟨w',g1,g2⟩:=go _ hm;exact⟨E,.tuple #[],w',.inl g1,.refl E,by simp[VR,VRL],g2⟩;simp_all
end
section
variable {P:Program}{w0:World}{S0:SB}{E:Env}{L:List Blk}{w:World}{T:Tm}{a:Act}
def LOp.isCall:LOp->Bool
 |.call _ _|.callv _ _=>true
 |_=>false
set_option maxHeartbeats 1000000 in
theorem XU{own:Nat}{o:Oper}{lo:LOp}{c:Prop}{av:AV}{L':List Blk}(hR:Rel w0 S0 E L w)(hT:TR E T a)(hl:iI P own o.op=some lo)(hnc:lo.isCall=false)(he:au T L lo=some (c,av,L'))(hc:c):
  ez P w0 S0 E L' av w (execOp a.eval o):=by
 obtain⟨dst,op,ty,pos,after,guard⟩:=o;cases op<;>simp only[iI]at hl<;>try cases hl
 case move x =>
  show ez P w0 S0 E L' av w (pure (.value (a.eval x)));rcases h1:bJ x with _|y<;>simp[h1]at hl;subst hl;simp only[au]at he;rcases h2:evX T y with _|u<;>simp only[h2,aj8,ajQ,reduceCtorEq,ajt,ajH]at he;obtain⟨rfl,rfl,rfl⟩:=he;exact .same hR rfl (ao h1 h2 hT)
 case assign x =>
  show ez P w0 S0 E L' av w (pure (.value (a.eval x)));rcases h1:bJ x with _|y<;>simp[h1]at hl;subst hl;simp only[au]at he;rcases h2:evX T y with _|u<;>simp only[h2,aj8,ajQ,reduceCtorEq,ajt,ajH]at he;obtain⟨rfl,rfl,rfl⟩:=he;exact .same hR rfl (ao h1 h2 hT)
 case pick x y z =>
  show ez P w0 S0 E L' av w (do pure (.value (if <- asBool (a.eval x)then a.eval y else a.eval z)));split at hl<;>try cases hl
  rename_i x' y' z' h1 h2 h3;simp only[au]at he;split at he<;>try cases he
  all_goals
   rename_i h4;have hx:=ao h1 h4 hT;simp only[VR]at hx
  .rcases h5:evX T y' with _|u<;>simp only[h5,aj8,ajQ,reduceCtorEq,ajt,ajH]at he;obtain⟨rfl,rfl,rfl⟩:=he;exact .same hR (by simp[hx,asBool]) (ao h2 h5 hT)
  .rcases h5:evX T z' with _|u<;>simp only[h5,aj8,ajQ,reduceCtorEq,ajt,ajH]at he;obtain⟨rfl,rfl,rfl⟩:=he;exact .same hR (by simp[hx,asBool]) (ao h3 h5 hT)
 case alloc t =>
  show ez P w0 S0 E L' av w (do pure (.value (<- Instr.alloc t true (.tuple #[]))));rcases h1:zOf P t with _|z<;>simp[h1]at hl;subst hl;simp only[au,ajt,ajH]at he;obtain⟨rfl,rfl,rfl⟩:=he;exact(aax hR h1).done
 case box t x =>
  show ez P w0 S0 E L' av w (do pure (.value (<- Instr.box t (a.eval x))));rcases h1:bJ x with _|y<;>simp[h1]at hl;subst hl;simp only[au]at he;rcases h2:evX T y with _|u
  .simp[h2]at he
  .simp only[h2,akV]at he;rcases h3:u.cells? with _|l<;>simp only[h3,reduceCtorEq,ajt,ajH]at he;obtain⟨rfl,rfl,rfl⟩:=he;exact(S6 hR (oL h3 (ao h1 h2 hT))).done
 case build t ps =>
  show ez P w0 S0 E L' av w (do pure (.value (<- Instr.build t (ps.map λ(i,x)=>(i,a.eval x)))));have hps:(ps.map λ(i,x)=>(i,a.eval x))=⟨ps.toList.map λ(i,x)=>(i,a.eval x)⟩:=(by apply Array.ext';simp);rw[hps];split at hl<;>try cases hl
  rename_i d z hd hz;split at hl<;>try cases hl
  .rename_i fs;split at hl<;>try cases hl
   rename_i hk;rcases hm:gp P (.struct fs) ps.toList with _|m<;>simp only[hm,aj8,ajQ,reduceCtorEq,ajt]at hl;subst hl;simp only[au]at he;rcases hf:jq T z m with _|l<;>simp only[hf,aj8,ajQ,reduceCtorEq,ajt,ajH]at he;obtain⟨rfl,rfl,rfl⟩:=he;exact(Y8 hT hR hd hz hk hm hf).done
  .rename_i n e;split at hl<;>try cases hl
   rename_i hs;rcases hm:gp P (.array n e) ps.toList with _|m<;>simp only[hm,aj8,ajQ,reduceCtorEq,ajt]at hl;subst hl;simp only[au]at he;rcases hf:jq T z m with _|l<;>simp only[hf,aj8,ajQ,reduceCtorEq,ajt,ajH]at he;obtain⟨rfl,rfl,rfl⟩:=he;exact(Y9 hT hR hd hz hm hs hf).done
 case buildSlice t n ps =>
  show ez P w0 S0 E L' av w (do pure (.value (<- Instr.buildSlice t n (ps.map λ(i,x)=>(i,a.eval x)))));have hps:(ps.map λ(i,x)=>(i,a.eval x))=⟨ps.toList.map λ(i,x)=>(i,a.eval x)⟩:=(by apply Array.ext';simp);rw[hps];split at hl<;>try cases hl
  rename_i e hd;split at hl<;>try cases hl
  rename_i s z m hs hz hm;split at hl<;>try cases hl
  rename_i hk;simp only[au]at he;rcases hf:jq T (fq z n) m with _|l<;>simp only[hf,reduceCtorEq]at he;have:=Za (own:=own == 2) hT hR hd hs hz hk.1 hk.2 hm hf;split at he<;>simp only[ajt,ajH]at he<;>obtain⟨rfl,rfl,rfl⟩:=he
  .rename_i ho;rw[if_pos ho]at this;exact this.done
  .rename_i ho;rw[if_neg ho]at this;exact this.done
 case load t x =>
  split at hl<;>try cases hl
  rename_i g s y h1 h2 h3;exact adA hR hT h1 h2 h3 he hc
 case store t x y =>
  split at hl<;>try cases hl
  rename_i s p q h1 h2 h3;exact abQ hR hT h1 h2 h3 he hc
 case nilCheck x =>
  rcases h1:bJ x with _|y<;>simp[h1]at hl;subst hl;simp only[au]at he;split at he<;>try cases he
  all_goals
   rename_i h2;have hx:=iJ hR h1 h2 hT
  .have hx':=hx;obtain⟨p,hp⟩:=hx'.ptr_shape;exact .same hR (by simp[execOp,hp]) hx
  .have hx':=hx;obtain⟨p,hp⟩:=hx'.iptr_shape;exact .same hR (by simp[execOp,hp]) hx
  .have hx':=hx;obtain⟨p,hp⟩:=hx'.iface_shape;exact .same hR (by simp[execOp,hp]) hx
  .have hx':=hx;obtain⟨p,hp⟩:=hx'.func_shape;exact .same hR (by simp[execOp,hp]) hx
 case binOp op t x y u=>exact afO (u:=u) hR hT hl he hc
 case unOp op t x =>
  show ez P w0 S0 E L' av w (do pure (.value (<- Op.unary op (a.eval x))));rcases h1:bJ x with _|y<;>simp[h1]at hl;subst hl;simp only[au]at he;split at he<;>try cases he
  rename_i u h2;rcases h3:un op u with _|r<;>simp only[h3,aj8,ajQ,reduceCtorEq,ajt,ajH]at he;obtain⟨rfl,rfl,rfl⟩:=he;exact(agr hR (ao h1 h2 hT) h3).done
 case convert s d x =>
  rcases h1:bJ x with _|y
  .simp[h1]at hl
  .simp only[h1,akV]at hl;exact adB hR hT h1 hl he hc
 case makeInterface t x =>
  show ez P w0 S0 E L' av w (do pure (.value (<- Instr.makeInterface t (a.eval x))));split at hl<;>try cases hl
  rename_i d hni hd;rcases h1:bJ x with _|y<;>simp only[h1,aj8,ajQ,reduceCtorEq,ajt]at hl;subst hl;simp only[au]at he;rcases h2:evX T y with _|u<;>simp only[h2,aj8,ajQ,reduceCtorEq,ajt,ajH]at he;obtain⟨rfl,rfl,rfl⟩:=he;refine .same hR (v:=.iface t (a.eval x)) ?_ ⟨_,rfl,ao h1 h2 hT⟩;simp only[Instr.makeInterface,ajB,run_underlying hd,ajC];cases d<;>first|rfl|exact absurd hd (hni _)
 case makeFunc fn first caps =>
  show ez P w0 S0 E L' av w (do pure (.value (<- Instr.makeFunc fn (first.map a.eval) (caps.map a.eval))));split at hl<;>try cases hl
  rename_i f;split at hl<;>try cases hl
  rename_i hfirst;rcases h1:lV caps.toList with _|ys<;>simp only[h1,aj8,ajQ,reduceCtorEq,ajt]at hl;subst hl;simp only[au]at he;rcases h2:gR T ys with _|l<;>simp only[h2,aj8,ajQ,reduceCtorEq,ajt,ajH]at he;obtain⟨rfl,rfl,rfl⟩:=he;have hf:first=#[]:=by simpa using hfirst
  subst hf;refine .same hR (v:=.func (.func f) #[] (caps.map a.eval)) (by simp[Instr.makeFunc]) ⟨caps.toList.map a.eval,?_,qc h1 h2 hT⟩;congr 1;apply Array.ext';simp
 case makeSlice t l c' =>
  show ez P w0 S0 E L' av w (do pure (.value (<- Instr.makeSlice t (a.eval l) (a.eval c'))));split at hl<;>try cases hl
  rename_i e hd;split at hl<;>try cases hl
  rename_i s b z l' c'' hs hb hz h1 h2;split at hl<;>try cases hl
  rename_i hk;simp only[au]at he;split at he<;>try cases he
  rename_i k1 n k2 m h3 h4;have e1:=ao h1 h3 hT;have e2:=ao h2 h4 hT;simp only[VR]at e1 e2;rw[e1,e2];exact(XL hR hd hs hb hz hk.1 hc.1 hc.2.1 hc.2.2.1 hc.2.2.2).done
 case slice t x lo' hi mx =>
  split at hl<;>try cases hl
  .rename_i x' lo'' hi' hd h1 h2 h3 h4;have hmx:mx=none:=by
    cases mx with
    |none=>rfl
    |some m=>simp[sY]at h4
   subst hmx;show ez P w0 S0 E L' av w (do pure (.value (<- Instr.sliceAt t (a.eval x) (lo'.map a.eval) (hi.map a.eval) none)));simp only[au]at he;split at he<;>try cases he
   rename_i s r1 r2 h5 h6 h7;exact(aev hR hd (ao h1 h5 hT) (dP hT h2 h6) (dP hT h3 h7) hc.1 hc.2.1 hc.2.2).done
  .rename_i e x' lo'' hi' mx' hd h1 h2 h3 h4;rcases hs:cL P e with _|s<;>simp only[hs,aj8,ajQ,reduceCtorEq,ajt]at hl;subst hl;exact afJ hR hT hd hs h1 h2 h3 h4 he hc
  .rename_i n e x' lo'' hi' hd h1 h2 h3 h4;rcases hs:cL P e with _|s<;>simp only[hs,aj8,ajQ,reduceCtorEq,ajt]at hl;subst hl;have hmx:mx=none:=by
    cases mx with
    |none=>rfl
    |some m=>simp[sY]at h4
   subst hmx;exact afK hR hT hd hs h1 h2 h3 he hc
 case fieldAddr t x f =>
  split at hl<;>try cases hl
  rename_i fs x' hd h1;split at hl<;>try cases hl
  rename_i fd hf;split at hl<;>try cases hl
  rename_i hz;exact abT hR hT hd hf hz h1 he
 case field t x f =>
  split at hl<;>try cases hl
  rename_i fs x' hd h1;split at hl<;>try cases hl
  rename_i fd hf;split at hl<;>try cases hl
  rename_i g s hg hs;exact abS hR hT hd hf hg hs h1 he hc
 case indexAddr t x i =>
  split at hl<;>try cases hl
  .rename_i e x' i' hd h1 h2;rcases hs:cL P e with _|s<;>simp only[hs,aj8,ajQ,reduceCtorEq,ajt]at hl;subst hl;exact abR hR hT hd hs h1 h2 he hc
  .rename_i n e x' i' hd h1 h2;rcases hs:cL P e with _|s<;>simp only[hs,aj8,ajQ,reduceCtorEq,ajt]at hl;subst hl;exact ZQ hR hT hd hs h1 h2 he hc
 case index t x i =>
  show ez P w0 S0 E L' av w (do pure (.value (<- Instr.index t (a.eval x) (a.eval i))));split at hl<;>try cases hl
  rename_i x' i' hd h1 h2;simp only[au]at he;split at he<;>try cases he
  rename_i s k n h3 h4;have e2:=ao h2 h4 hT;simp only[VR]at e2;rw[e2];exact(acz hR hd (ao h1 h3 hT) hc.1 hc.2).done
 case extract x i =>
  show ez P w0 S0 E L' av w (do pure (.value (<- Instr.extract (a.eval x) i)));rcases h1:bJ x with _|y<;>simp[h1]at hl;subst hl;simp only[au]at he;split at he<;>try cases he
  rename_i l h2;rcases h3:l[i]? with _|u<;>simp only[h3,aj8,ajQ,reduceCtorEq,ajt,ajH]at he;obtain⟨rfl,rfl,rfl⟩:=he;exact(XM hR (ao h1 h2 hT) h3).done
 case makeMap t r =>
  show ez P w0 S0 E L' av w (do pure (.value (<- Instr.makeMap t (r.map a.eval))));cases r with
  |some x=>simp at hl
  | none =>
    simp only at hl;split at hl<;>try cases hl
    rename_i kt et hd;simp only[au,ajt,ajH]at he;obtain⟨rfl,rfl,rfl⟩:=he;exact(aas hR hd).done
 case lookup t m k ok =>
  show ez P w0 S0 E L' av w (do pure (.value (<- Instr.lookup t (a.eval m) (a.eval k) ok)));split at hl<;>try cases hl
  rename_i kt et m' k' hd h1 h2;split at hl<;>try cases hl
  rename_i kd z h3 h4;simp only[au]at he;split at he<;>try cases he
  .rename_i kv h5 h6;split at he<;>cases he;rename_i hf;exact(aat ok hR hd h3 h4 (ao h1 h5 hT) hf (ao h2 h6 hT)).done
  .rename_i i kv h5 h6;split at he<;>try cases he
   rename_i es ck h7;split at he<;>try cases he
   rename_i hf;have go:=λr av hm hav=>(acx (P:=P) (r:=r) (av:=av) ok hR hd h3 h4 h7 (ao h1 h5 hT) hf (ao h2 h6 hT) hm hav).done
   split at he<;>cases he
   .rename_i j v hm;exact go _ _ hm rfl
   .rename_i hm;exact go _ _ hm rfl
 case mapUpdate t m k v =>
  show ez P w0 S0 E L' av w (do Instr.mapUpdate t (a.eval m) (a.eval k) (a.eval v);pure .skip);split at hl<;>try cases hl
  rename_i kt et m' k' v' hd h1 h2 h3;rcases h4:fV P kt with _|kd<;>simp[h4]at hl;subst hl;simp only[au]at he;split at he<;>try cases he
  rename_i i kv x h5 h6 h7;split at he<;>try cases he
  rename_i es ck h8;split at he<;>try cases he
  rename_i hf;have go:=λr hm=>acw (P:=P) (r:=r) hR hd h4 h8 (ao h1 h5 hT) hf (ao h2 h6 hT) (ao h3 h7 hT) hm
  split at he<;>cases he
  .rename_i j y hm;obtain⟨w',g1,g2⟩:=go _ hm;exact⟨E,undef,w',.inr ⟨by simp[g1],rfl⟩,.refl E,by simp[VR],g2⟩
  .rename_i hm;obtain⟨w',g1,g2⟩:=go _ hm;exact⟨E,undef,w',.inr ⟨by simp[g1],rfl⟩,.refl E,by simp[VR],g2⟩
 case range t x =>
  show ez P w0 S0 E L' av w (do pure (.value (<- Instr.range t (a.eval x))));split at hl<;>try cases hl
  .rename_i hd;rcases h1:bJ x with _|y<;>simp[h1]at hl;subst hl;simp only[au]at he;split at he<;>try cases he
   rename_i s h2;exact(Y4 hR hd (ao h1 h2 hT)).done
  .rename_i kt et hd;rcases h1:bJ x with _|y<;>simp[h1]at hl;subst hl;simp only[au]at he;split at he<;>try cases he
   .rename_i h2;exact(XK hR hd (ao h1 h2 hT)).done
   .rename_i i h2;split at he<;>cases he;rename_i es ck h3;exact(Y5 hR hd h3 (ao h1 h2 hT)).done
 case entry x =>
  show ez P w0 S0 E L' av w (do pure (.value (<- Instr.entry (a.eval x))));rcases h1:bJ x with _|y<;>simp[h1]at hl;subst hl;simp only[au]at he;split at he<;>try cases he
  rename_i i h2;split at he<;>try cases he
  rename_i j since seen st h3;split at he<;>try cases he
  rename_i es ck h4;split at he<;>cases he;rename_i e h5;exact(Y7 hR h3 h4 (ao h1 h2 hT) h5).done
 case next x isS =>
  show ez P w0 S0 E L' av w (do pure (.value (<- Instr.next (a.eval x) isS ty)));by_cases hS:isS=true
  case neg =>
   rw[if_neg hS]at hl;have hS':isS=false:=(by simpa using hS);subst hS';rcases h1:bJ x with _|y<;>simp[h1]at hl;subst hl;simp only[au]at he;split at he<;>try cases he
   rename_i i h2;split at he<;>try cases he
   .rename_i h3;exact(Y6 hR h3 (ao h1 h2 hT)).done
   .rename_i j since seen last h3;split at he<;>try cases he
    rename_i es ck h4;split at he<;>cases he;rename_i r h5;exact(aar hR h3 h4 (ao h1 h2 hT) h5).done
  rw[if_pos hS]at hl;subst hS;rcases h1:bJ x with _|y<;>simp[h1]at hl;subst hl;simp only[au]at he;split at he<;>try cases he
  rename_i i h2;split at he<;>try cases he
  rename_i s p h3;have key:=aaq (P:=P) (t:=ty) hR h3 (ao h1 h2 hT);split at he<;>cases he
  .rename_i hp;rw[if_pos hp,if_pos hp]at key;exact key.done
  .rename_i hp;rw[if_neg hp,if_neg hp]at key;exact key.done
 case call c' =>
  obtain⟨callee,args,ats⟩:=c';split at hl<;>try cases hl
  rename_i xs hx;split at hl<;>try cases hl
  .simp[LOp.isCall]at hnc
  .rename_i x _ _;rcases h1:bJ x with _|y<;>simp only[h1,aj8,ajQ,reduceCtorEq,ajt]at hl;subst hl;simp[LOp.isCall]at hnc
  .rename_i b hb;simp only at hb hx hl;subst hb;have:execOp a.eval {dst,op:=.call {callee:=.builtin b,args,argTypes:=ats},type:=ty,pos,after,guard}=builtin b ⟨ats.toList⟩ ty (args.map λ|.const _=>true|_=>false) ⟨args.toList.map a.eval⟩:=by simp only[execOp,resolve,pure_bind,invoke];congr 1;apply Array.ext';simp
   rw[this];exact Yo hR hT hx hl he hc λe=>by subst e;exact afM hR hT hx hl he
end
structure aw where
 dst:Option Nat
 op:LOp
 guard:Option (Nat×Bool)
 deriving Inhabited
def cB(dst:Option Nat)(v:AV)(T:Tm):Tm :=
 match dst with
 |some d=>(d,v)::T
 |none=>T
def fM(r:Option Nat):Fence:={fn:=λ_=>True,depth:=none,alive:=false,round:=r}
theorem Vx{P:Program}{args:Array Value}{w:World}{R:Ending->World->Prop}(r:Option Nat)(n:Nat)(h:Calls P f args w R):CallsIn (fM r) n P f args w R:=by have h1:CallsIn Fence.wide n P f args w R:=callsIn_wide.2 h;cases r<;>exact h1
theorem Yv{P:Program}{n l:Nat}{tmps:Array Value}{ca cb:Code}{w:World}{R:Ending->World->Prop}(r:Option Nat)(h:RoundIn (fM none) n P l f tmps ca cb w R):RoundIn (fM r) n P l f tmps ca cb w R:=by cases r<;>exact h
def Wo(P:Program)(i:Nat)(args:List AV)(L:List Blk)(Q:AV->List Blk->Prop):Prop :=
 ∀(w0:World) (S0:SB) (E:Env) (w:World) (vs:List Value),Rel w0 S0 E L w->VRL E args vs->∀c,E.loc i=some c ->
  ∃fn tmps ca cb,(Instr.yield c.blk ⟨vs⟩).run P w=.ok (.round c.blk fn tmps ca cb) w/\RoundIn (fM none) 0 P c.blk fn tmps ca cb w λe w'=>∃E' v av L',e=.returned v/\E.le E'/\Q av L'/\VR E' av v/\Rel w0 S0 E' L' w'
theorem Wo.mono{P:Program}{L:List Blk}{Q Q':AV->List Blk->Prop}(h:Wo P i args L Q)(hq:∀av L',Q av L'->Q' av L'):Wo P i args L Q':=by intro w0 S0 E w vs hR hv c hc;obtain⟨fn,tmps,ca,cb,h1,h2⟩:=h w0 S0 E w vs hR hv c hc;exact⟨fn,tmps,ca,cb,h1,h2.mono λe w' ⟨E',v,av,L',a,b,c,d⟩=>⟨E',v,av,L',a,b,hq _ _ c,d⟩⟩
def af(P:Program)(f:FuncId)(args:List AV)(L:List Blk)(Q:AV->List Blk->Prop):Prop :=
 ∀(w0:World) (S0:SB) (E:Env) (w:World) (vs:List Value),Rel w0 S0 E L w->VRL E args vs ->
  ((callFunc f ⟨vs⟩).run P w=.ok (.enter f ⟨vs⟩) w/\Calls P f ⟨vs⟩ w λe w'=>∃E' v av L',e=.returned v/\E.le E'/\Q av L'/\VR E' av v/\Rel w0 S0 E' L' w') \/
  (∃E' v av L' w',(callFunc f ⟨vs⟩).run P w=.ok (.value v) w'/\E.le E'/\Q av L'/\VR E' av v/\Rel w0 S0 E' L' w')
theorem af.mono{P:Program}{L:List Blk}{Q Q':AV->List Blk->Prop}(h:af P f args L Q)(hq:∀av L',Q av L'->Q' av L'):af P f args L Q':=by
 intro w0 S0 E w vs hR hv;rcases h w0 S0 E w vs hR hv with⟨h1,h2⟩|⟨E',v,av,L',w',h1,h2,h3,h4⟩;exact .inl ⟨h1,h2.mono λe w' ⟨E',v,av,L',a,b,c,d⟩=>⟨E',v,av,L',a,b,hq _ _ c,d⟩⟩
 grind
def Res(K:Tm->List Blk->Prop)(d:Option Nat)(T:Tm):Option (Prop×AV×List Blk)->Prop
 |some (c,av,L')=>c/\K (cB d av T) L'
 |none=>False
theorem afa{T:Tm}{c:Prop}{av:AV}{L':List Blk}:Res K d T (some (c,av,L'))=(c/\K (cB d av T) L'):=rfl
def Kon(K:Tm->List Blk->Prop)(d:Option Nat)(T:Tm):AV->List Blk->Prop:=λav L'=>K (cB d av T) L'
def Cal(P:Program)(f:FuncId)(K:Tm->List Blk->Prop)(d:Option Nat)(T:Tm)(L:List Blk):Option (List AV)->Prop
 |some args=>af P f args L (Kon K d T)
 |none=>False
theorem afk{P:Program}{T:Tm}{L:List Blk}:Cal P f K d T L (some args)=af P f args L (Kon K d T):=rfl
def ac2(P:Program)(K:Tm->List Blk->Prop)(d:Option Nat)(T:Tm)(L:List Blk):Option AV->Option (List AV)->Prop
 |some (.func g caps),some args=>af P g (args++caps) L (Kon K d T)
 |some (.yld i),some args=>Wo P i args L (Kon K d T)
 |_,_=>False
theorem V1{P:Program}{T:Tm}{L:List Blk}:ac2 P K d T L (some (.yld i)) (some args)=Wo P i args L (Kon K d T):=rfl
theorem ac1{P:Program}{T:Tm}{L:List Blk}{g:FuncId}{caps:List AV}:ac2 P K d T L (some (.func g caps)) (some args)=af P g (args++caps) L (Kon K d T):=rfl
def AOp(P:Program)(o:aw)(K:Tm->List Blk->Prop)(T:Tm)(L:List Blk):Prop :=
 match o.op with
 |.call f xs=>Cal P f K o.dst T L (gR T xs)
 |.callv f xs=>ac2 P K o.dst T L (evX T f) (gR T xs)
 |lo=>Res K o.dst T (au T L lo)
def Grd(P:Program)(o:aw)(K:Tm->List Blk->Prop)(b:Bool)(T:Tm)(L:List Blk):Option AV->Prop
 |some (.bool x)=>if x=b then AOp P o K T L else K (cB o.dst (.tup []) T) L
 |some (.tup [])=>K (cB o.dst (.tup []) T) L
 |_=>False
theorem xL{P:Program}{o:aw}{x:Bool}{T:Tm}{L:List Blk}:Grd P o K b T L (some (.bool x))=if x=b then AOp P o K T L else K (cB o.dst (.tup []) T) L:=rfl
theorem X7{P:Program}{o:aw}{T:Tm}{L:List Blk}:Grd P o K b T L (some (.tup []))=K (cB o.dst (.tup []) T) L:=rfl
def ku(P:Program)(K:Tm->List Blk->Prop):List aw->Tm->List Blk->Prop
 |[],T,L=>K T L
 | o::rest,T,L=>match o.guard with
   |none=>AOp P o (ku P K rest) T L
   |some (t,b)=>Grd P o (ku P K rest) b T L (ay T t)
theorem afo{P:Program}{T:Tm}{L:List Blk}:ku P K [] T L=K T L:=rfl
theorem ac3{P:Program}{op:LOp}{rest:List aw}{T:Tm}{L:List Blk}:ku P K (⟨d,op,none⟩::rest) T L=AOp P ⟨d,op,none⟩ (ku P K rest) T L:=rfl
theorem aaS{P:Program}{op:LOp}{rest:List aw}{T:Tm}{L:List Blk}:ku P K (⟨d,op,some (t,b)⟩::rest) T L=Grd P ⟨d,op,some (t,b)⟩ (ku P K rest) b T L (ay T t):=rfl
def ag9(N:Nat):Option Nat->Bool
 |some d=>decide (d<N)
 |none=>true
def kD(P:Program)(N:Nat)(own:Nat->Nat)(ops:Array Oper)(i:Nat):Option aw :=
 match ops[i]? with
 |none=>none
 | some o=>match (iI P (own i) o.op).getD .bad with
   | lo =>
     if ag9 N o.dst=true then
      match o.guard with
      |none=>some ⟨o.dst,lo,none⟩
      | some (j,b)=>match (ops[j]?).bind (·.dst) with
        |some t=>if t<N then some ⟨o.dst,lo,some (t,b)⟩else none
        |none=>none
     else none
def b7(P:Program)(N:Nat)(own:Nat->Nat)(ops:Array Oper):List Nat->Option (List aw)
 |[]=>some []
 | i::l=>match kD P N own ops i,b7 P N own ops l with
   |some o,some m=>some (o::m)
   |_,_=>none
section
variable {P:Program}{w0:World}{S0:SB}{N:Nat}
theorem UA(a:Act)(d:Option Nat)(v:Value):(a.put d v).tmps.size=a.tmps.size:=by cases d<;>simp[Act.put]
theorem Oa(a:Act)(d:Option Nat)(v:Value):(a.put d v).defers=a.defers:=by cases d<;>simp[Act.put]
theorem TR.putT{E:Env}{T:Tm}{a:Act}{d:Option Nat}{x:AV}{v:Value}(r:TR E T a)(hd:∀k,d=some k->k<a.tmps.size)(hv:VR E x v):TR E (cB d x T) (a.put d v):=by
 cases d with
 |none=>exact r
 |some k=>exact r.put (hd k rfl) hv
def mkD(D:Nat):Deferred:={target:=.collected D,args:=#[]}
def Zy(w0:World)(S0:SB)(ds:List Deferred):Prop:=S0.B<=w0.heap.size/\ds.Nodup/\∀d∈ds,∃D,d=mkD D/\S0.B<=D/\D<w0.heap.size/\¬S0 D/\w0.heap[D]?=some (.deferred (some []))
theorem Zy.nil{w0:World}{S0:SB}(h:S0.B<=w0.heap.size):Zy w0 S0 []:=⟨h,List.nodup_nil,λ_ h=>by cases h⟩
def St(w0:World)(S0:SB)(N:Nat)(E:Env)(T:Tm)(L:List Blk)(a:Act)(w:World):Prop :=
 Rel w0 S0 E L w/\TR E T a/\a.tmps.size=N/\Zy w0 S0 a.defers
theorem aac{own:Nat}{s d:TypeId}{x:Opd}{lo:LOp}(h:xX P own s d x=some lo):lo.isCall=false:=by
 unfold xX at h
 repeat' split at h
 all_goals (first|(cases h;rfl)|cases h)
theorem ack{op:BinOp}{t:TypeId}{x y:Operand}{lo:LOp}(h:Of P op t x y=some lo):lo.isCall=false:=by
 unfold Of at h
 repeat' split at h
 all_goals (first|(cases h;rfl)|cases h)
theorem V9{own:Nat}{b:Builtin}{ts:List TypeId}{xs:List Opd}{lo:LOp}(h:db P own b ts xs=some lo):lo.isCall=false:=by
 unfold db at h
 repeat' split at h
 all_goals (first|(cases h;rfl)|cases h|(simp only[ajW]at h;obtain⟨_,_,rfl⟩:=h;rfl))
theorem aee{own:Nat}{op:Op}{lo:LOp}(h:iI P own op=some lo)(hc:∀c,op≠.call c):lo.isCall=false:=by
 cases op
 case makeMap t r =>
  cases r with
  |some x=>simp[iI]at h
  | none =>
    simp only[iI]at h;split at h<;>cases h;rfl
 all_goals (simp only[iI]at h;try (cases h;done))
 case call c=>exact absurd rfl (hc c)
 case binOp=>exact ack h
 case convert x=>simp only[alx]at h;obtain⟨_,_,h⟩:=h;exact aac h
 all_goals
  repeat' split at h
  all_goals (first|(cases h;rfl)|cases h|(simp only[ajW]at h;obtain⟨_,_,rfl⟩:=h;rfl))
theorem J7{own:Nat}{o:Oper}{lo:LOp}{gd:Option (Nat×Bool)}(hl':(iI P own o.op).getD .bad=lo)(hd:∀d,o.dst=some d->d<N){T:Tm}{L:List Blk}{E:Env}{a:Act}{w:World}{K:Tm->List Blk->Prop}(hst:St w0 S0 N E T L a w)(h:AOp P ⟨o.dst,lo,gd⟩ K T L){next:Act->World->Prop}{Q:Exit->Act->World->Prop}(hK:∀E' T' L' a' w',E.le E'->K T' L'->St w0 S0 N E' T' L' a' w'->next a' w'){r:Option Nat}:o.wpIn (fM r) 0 P a w next Q:=by
 have hl:iI P own o.op=some lo:=by rcases hq:iI P own o.op with _|x;rw[hq]at hl';simp only[aml]at hl';subst hl';exact h.elim;simp_all
 obtain⟨hR,hT,hN,hdf⟩:=hst;have hnd:∀c,o.op≠.defer c:=λc e=>by rw[e]at hl;simp[iI]at hl
 refine⟨λ_ _=>trivial,?_⟩;rw[Oper.semAt_plain _ _ _ hnd];have value:∀{E':Env}{v:Value}{av:AV}{L':List Blk}{w':World},E.le E'->VR E' av v->Rel w0 S0 E' L' w'->K (cB o.dst av T) L'->next (a.put o.dst v) w':=λ{E' v av L' w'} h1 h2 h3 h4 =>
  hK E' _ _ _ _ h1 h4 ⟨h3,(hT.mono h1).putT (λk hk=>by rw[hN];exact hd k hk) h2,by rw[UA];exact hN,by rw[Oa];exact hdf⟩
 have called:∀{f:FuncId}{vs:List Value}{args:List AV},((execOp a.eval o).run P w=(callFunc f ⟨vs⟩).run P w)->VRL E args vs->af P f args L (Kon K o.dst T)->o.uponIn (fM r) 0 P a next Q ((execOp a.eval o).run P w):=λ{f vs args} hrun hv hc=>by rw[hrun];rcases hc w0 S0 E w vs hR hv with⟨h1,h2⟩|⟨E',v,av,L',w',h1,h2,h3,h4,h5⟩;rw[h1,Oper.uponIn_enter];refine⟨λh=>(by cases h),(Vx r _ h2).mono λe w' ⟨E',v,av,L',e1,h3,h4,h5,h6⟩=>?_⟩;subst e1;exact value h3 h5 h6 h4;rw[h1,Oper.uponIn_value];exact value h2 h4 h5 h3
 by_cases hcall:lo.isCall=true
 .obtain⟨d0,op,ty,pos,after,guard⟩:=o;by_cases hop:∃c,op=.call c
  .obtain⟨⟨callee,args,ats⟩,rfl⟩:=hop;simp only[iI]at hl;split at hl<;>try cases hl
   rename_i xs hx;split at hl<;>try cases hl
   rename_i f;simp only[AOp]at h;rcases hev:gR T xs with _|l;rw[hev]at h;exact h.elim;rw[hev]at h;refine called (vs:=args.toList.map a.eval) ?_ (qc hx hev hT) h;rw[execOp_call_go];congr 2
   grind
   .rename_i x _;rcases h1:bJ x with _|y<;>simp only[h1,aj8,ajQ,reduceCtorEq,ajt]at hl;subst hl;simp only[AOp]at h;rcases hev:evX T y with _|u;rw[hev]at h;exact h.elim;rcases hevs:gR T xs with _|l;rw[hev,hevs]at h;cases u<;>exact h.elim;rw[hev,hevs]at h;cases u<;>simp only[ac2]at h
    case yld i =>
     have hx':=ao h1 hev hT;simp only[VR]at hx';obtain⟨c,hc,hfv⟩:=hx';have hrun:(execOp a.eval {dst:=d0,op:=.call {callee:=.value x,args,argTypes:=ats},type:=ty,pos,after,guard}).run P w=(Instr.yield c.blk (args.map a.eval)).run P w:=by simp only[execOp,resolve,hfv,Deferred.ofValue,pure_bind,invoke];simp
     have hargs:(⟨args.toList.map a.eval⟩:Array Value)=args.map a.eval:=(by apply Array.ext';simp);obtain⟨fn,tmps,ca,cb,k1,k2⟩:=h w0 S0 E w _ hR (qc hx hevs hT) c hc;rw[hrun,<- hargs,k1,Oper.uponIn_round];refine⟨λh=>(by cases h),(Yv r k2).mono λe w' ⟨E',v,av,L',e1,h3,h4,h5,h6⟩=>?_⟩;subst e1;exact value h3 h5 h6 h4
    rename_i g caps;have hx':=ao h1 hev hT;simp only[VR]at hx';obtain⟨cs,hfv,hcs⟩:=hx';refine called (vs:=args.toList.map a.eval++cs) ?_ ((qc hx hevs hT).append hcs) h;have:execOp a.eval {dst:=d0,op:=.call {callee:=.value x,args,argTypes:=ats},type:=ty,pos,after,guard}=callFunc g (args.map a.eval++⟨cs⟩):=by simp only[execOp,resolve,hfv,Deferred.ofValue,pure_bind,invoke];simp
    rw[this];congr 2;simp
   rw[V9 hl]at hcall;cases hcall
  rw[aee hl (λc e=>hop ⟨c,e⟩)]at hcall;cases hcall
 have hcall:lo.isCall=false:=by simpa using hcall
 have h':Res K o.dst T (au T L lo):=by cases lo<;>simp only[LOp.isCall,akx]at hcall<;>exact h
 rcases he:au T L lo with _|⟨c,av,L'⟩;rw[he]at h';exact h'.elim;rw[he]at h';obtain⟨E',v,w',h1,h2,h3,h4⟩:=XU hR hT hl hcall he h'.1;rcases h1 with h1|⟨h1,rfl⟩;rw[h1,Oper.uponIn_value];exact value h2 h3 h4 h'.2;rw[h1,Oper.uponIn_skip];exact value h2 h3 h4 h'.2
end
section
variable {P:Program}{w0:World}{S0:SB}{N:Nat}
theorem iO{E:Env}{T:Tm}{a:Act}{ops:Array Oper}{j t:Nat}(hT:TR E T a)(hj:(ops[j]?).bind (·.dst)=some t)(ht:t<a.tmps.size):
  (∀x,ay T t=some (.bool x)->yielded ops a.tmps j=some x)/\(ay T t=some (.tup [])->yielded ops a.tmps j=none):=by
 refine⟨λx hx=>?_,λhx=>?_⟩;have:=hT t _ hx;simp only[VR]at this;unfold yielded;simp_all;have:=hT t _ hx;obtain⟨vs,h1,h2⟩:=this;unfold yielded;simp_all
theorem gP{own:Nat->Nat}{ops:Array Oper}{i:Nat}{lo:aw}(h:kD P N own ops i=some lo):
  ∃o,ops[i]?=some o/\(iI P (own i) o.op).getD .bad=lo.op/\o.dst=lo.dst/\(∀d,o.dst=some d->d<N) /\
   ((o.guard=none/\lo.guard=none)\/∃j b t,o.guard=some (j,b)/\(ops[j]?).bind (·.dst)=some t/\t<N/\lo.guard=some (t,b)):=by
 unfold kD at h;split at h;cases h;rename_i o ho;split at h;rename_i hd;have hd':∀d,o.dst=some d->d<N:=λd e=>by rw[e]at hd;simpa[ag9]using hd
 grind
 cases h
theorem OV{E:Env}{T:Tm}{L:List Blk}{a:Act}{w:World}(h:St w0 S0 N E T L a w){d:Option Nat}(hd:∀k,d=some k->k<N):St w0 S0 N E (cB d (.tup []) T) L (a.put d undef) w :=
 ⟨h.1,h.2.1.putT (λk hk=>by rw[h.2.2.1];exact hd k hk) ⟨[],rfl,rfl⟩,by rw[UA];exact h.2.2.1,by rw[Oa];exact h.2.2.2⟩
theorem OI{own:Nat->Nat}{ops:Array Oper}{K:Tm->List Blk->Prop}{Q:Exit->Act->World->Prop}{r:Option Nat}:∀(is:List Nat) (los:List aw),b7 P N own ops is=some los ->
  ∀{T:Tm}{L:List Blk}{E:Env}{a:Act}{w:World},St w0 S0 N E T L a w->ku P K los T L->(∀E' T' L' a' w',E.le E'->K T' L'->St w0 S0 N E' T' L' a' w'->Q .normal a' w')->wpOpsIn (fM r) 0 P ops Q is a w
 |[],los,hl,T,L,E,a,w,hst,h,hK=>by simp[b7]at hl;subst hl;exact hK E T L a w (.refl E) h hst
 | i::is,los,hl,T,L,E,a,w,hst,h,hK=>by
   simp only[b7]at hl;split at hl<;>try cases hl
   rename_i lo los' h1 h2;obtain⟨o,ho,hop,hdst,hd,hg⟩:=gP h1;obtain⟨ld,lop,lg⟩:=lo;subst hdst;simp only[wpOpsIn,ho];have go:AOp P ⟨o.dst,lop,lg⟩ (ku P K los') T L->o.wpIn (fM r) 0 P a w (wpOpsIn (fM r) 0 P ops Q is) Q:=λh' =>
    J7 hop hd hst h' λE' T' L' a' w' hle hk' hst'=>OI is los' h2 hst' hk' λE'' T'' L'' a'' w'' hle'=>hK E'' T'' L'' a'' w'' (hle.trans hle')
   have skip:ku P K los' (cB o.dst (.tup []) T) L->wpOpsIn (fM r) 0 P ops Q is (a.put o.dst undef) w:=λh' =>
    OI is los' h2 (OV hst hd) h' hK
   rcases hg with⟨g1,g2⟩|⟨j,b,t,g1,g2,g3,g4⟩
   .subst g2;rw[if_pos (by simp[Region.wanted,g1])];exact go h
   .subst g4;simp only[ku]at h;have hy:=iO (E:=E) (T:=T) (a:=a) (ops:=ops) hst.2.1 g2 (by rw[hst.2.2.1];exact g3);rcases hx:ay T t with _|u
    .rw[hx]at h;exact h.elim
    rw[hx]at h;cases u<;>try exact h.elim
    .rename_i x;rw[xL]at h;have:=hy.1 x hx;by_cases e:x=b
     .rw[if_pos (by simp[Region.wanted,g1,this,e])];simp_all
     .rw[if_neg (by simp[Region.wanted,g1,this,e])];rw[if_neg e]at h;exact⟨λ_ _=>trivial,skip h⟩
    .rename_i l;cases l with
     |cons _ _=>exact h.elim
     | nil =>
       have:=hy.2 hx;rw[if_neg (by simp[Region.wanted,g1,this])];exact⟨λ_ _=>trivial,skip h⟩
theorem St.weak{T:Tm}{L:List Blk}{E:Env}{a:Act}{w:World}{T':Tm}{L':List Blk}(h:St w0 S0 N E T L a w)(hT:∀t v,ay T' t=some v->ay T t=some v)(hL:L'.length=L.length)(hsub:∀(i:Nat) (k:Blk),L'[i]?=some k->k=.dead\/L[i]?=some k):St w0 S0 N E T' L' a w:=⟨h.1.kill hL hsub,h.2.1.weak hT,h.2.2⟩
end
def Opd.tmps:Opd->List Nat
 |.tmp t=>[t]
 |.av _=>[]
def ace:Option Opd->List Nat
 |some x=>x.tmps
 |none=>[]
def Xr:List (Nat×Nat×Opd)->List Nat
 |[]=>[]
 |(_,_,x)::l=>x.tmps++Xr l
def WL:List Opd->List Nat
 |[]=>[]
 |x::l=>x.tmps++WL l
def LOp.tmps:LOp->List Nat
 |.mv x|.box x|.load _ _ x|.nilchk x|.slnil _ x|.un _ x|.conv _ x|.sconv x|.b2s x|.s2b x|.s2bO x|.s2bG x|.rangeS x|.nextS x|.mkif _ x|.faddr _ x|.field _ _ _ x|.extract x _|.len _ x|.cap x|.clear _ _ x=>x.tmps
 |.pick c a b=>c.tmps++a.tmps++b.tmps
 |.alloc _|.bad|.mkmap=>[]
 |.mlen x|.mrange x|.mnext x|.mentry x=>x.tmps
 |.mget _ _ _ a x=>a.tmps++x.tmps
 |.mdel _ a x=>a.tmps++x.tmps
 |.mset _ c a b=>c.tmps++a.tmps++b.tmps
 |.build _ ps|.bslice _ _ _ _ ps=>Xr ps
 |.store _ a x|.bin _ a x|.eqk _ _ a x|.eq2 _ a x|.mkslice _ _ _ a x|.iaddr _ a x|.iaddrA _ _ a x|.idxS a x|.app _ _ _ _ a x|.appz _ _ _ a x|.copy _ a x=>a.tmps++x.tmps
 |.mkfn _ l|.minmax _ l|.call _ l=>WL l
 |.callv f l=>f.tmps++WL l
 |.slS x lo hi|.slA _ _ x lo hi=>x.tmps++ace lo++ace hi
 |.slV _ x lo hi mx=>x.tmps++ace lo++ace hi++ace mx
section
variable {T T':Tm}{L:List Blk}
theorem aD{x:Opd}(h:∀t∈x.tmps,ay T t=ay T' t):evX T x=evX T' x:=by
 cases x with
 |tmp t=>exact h t (by simp[Opd.tmps])
 |av a=>rfl
theorem kp{x:Option Opd}(h:∀t∈ace x,ay T t=ay T' t):bnd T x=bnd T' x:=by
 cases x with
 |none=>rfl
 |some x=>simp only[bnd,aD (x:=x) h]
theorem iB:∀{l:List Opd},(∀t∈WL l,ay T t=ay T' t)->gR T l=gR T' l
 |[],_=>rfl
 |x::l,h=>by simp only[WL,ajx]at h;simp only[gR,aD (x:=x) (λt ht=>h t (.inl ht)),iB (l:=l) (λt ht=>h t (.inr ht))]
theorem Jt:∀{ps:List (Nat×Nat×Opd)}{z:List AV},(∀t∈Xr ps,ay T t=ay T' t)->jq T z ps=jq T' z ps
 |[],_,_=>rfl
 | (o,s,x)::l,z,h=>by
   simp only[Xr,ajx]at h;simp only[jq,aD (x:=x) (λt ht=>h t (.inl ht))];split
   .split
    .exact Jt λt ht=>h t (.inr ht)
    .rfl
   .rfl
theorem Q9{lo:LOp}(h:∀t∈lo.tmps,ay T t=ay T' t):au T L lo=au T' L lo:=by
 cases lo
 case mv x=>simp only[au,evD,aD (x:=x) h]
 case box x=>simp only[au,evD,aD (x:=x) h]
 case load g s x=>simp only[au,evD,aD (x:=x) h]
 case nilchk x=>simp only[au,evD,aD (x:=x) h]
 case un o x=>simp only[au,evD,aD (x:=x) h]
 case conv k x=>simp only[au,evD,aD (x:=x) h]
 case sconv x=>simp only[au,evD,aD (x:=x) h]
 case b2s x=>simp only[au,evD,aD (x:=x) h]
 case bad=>rfl
 case mkmap=>rfl
 case mlen x=>simp only[au,evD,aD (x:=x) h]
 case mrange x=>simp only[au,evD,aD (x:=x) h]
 case mnext x=>simp only[au,evD,aD (x:=x) h]
 case mentry x=>simp only[au,evD,aD (x:=x) h]
 case mget kd ok z a x =>
  simp only[LOp.tmps,ajx]at h;simp only[au,evD,aD (x:=a) (λt ht=>h t (.inl ht)),aD (x:=x) (λt ht=>h t (.inr ht))]
 case mdel kd a x =>
  simp only[LOp.tmps,ajx]at h;simp only[au,evD,aD (x:=a) (λt ht=>h t (.inl ht)),aD (x:=x) (λt ht=>h t (.inr ht))]
 case mset kd c a b =>
  simp only[LOp.tmps,ajx]at h;simp only[au,evD,aD (x:=c) (λt ht=>h t (.inl (.inl ht))),aD (x:=a) (λt ht=>h t (.inl (.inr ht))),aD (x:=b) (λt ht=>h t (.inr ht))]
 case slnil _ x=>simp only[au,evD,aD (x:=x) h]
 case s2b x=>simp only[au,evD,aD (x:=x) h]
 case s2bO x=>simp only[au,evD,aD (x:=x) h]
 case s2bG x=>simp only[au,evD,aD (x:=x) h]
 case rangeS x=>simp only[au,evD,aD (x:=x) h]
 case nextS x=>simp only[au,evD,aD (x:=x) h]
 case mkif t x=>simp only[au,evD,aD (x:=x) h]
 case faddr o x=>simp only[au,evD,aD (x:=x) h]
 case field g o s x=>simp only[au,evD,aD (x:=x) h]
 case extract x i=>simp only[au,evD,aD (x:=x) h]
 case len b x=>cases b<;>simp only[au,evD,aD (x:=x) h]
 case cap x=>simp only[au,evD,aD (x:=x) h]
 case clear s z x=>simp only[au,evD,aD (x:=x) h]
 case alloc z=>rfl
 case pick c a b =>
  simp only[LOp.tmps,ajx]at h;simp only[au,evD,aD (x:=c) (λt ht=>h t (.inl (.inl ht))),aD (x:=a) (λt ht=>h t (.inl (.inr ht))),aD (x:=b) (λt ht=>h t (.inr ht))]
 case build z ps=>simp only[au,evD,Jt (ps:=ps) h]
 case bslice o s n z ps=>simp only[au,evD,Jt (ps:=ps) h]
 case mkfn f l=>simp only[au,evD,iB (l:=l) h]
 case minmax m l =>
  match l,h with
  | [x,y],h =>
    simp only[LOp.tmps,WL,ajx,aj6]at h;simp only[au,evD,aD (x:=x) (λt ht=>h t (.inl ht)),aD (x:=y) (λt ht=>h t (.inr ht))]
  |[],_=>rfl
  |[_],_=>rfl
  |_::_::_::_,_=>rfl
 case call f l=>rfl
 case callv f l=>rfl
 case slS x lo hi =>
  simp only[LOp.tmps,ajx]at h;simp only[au,evD,aD (x:=x) (λt ht=>h t (.inl (.inl ht))),kp (x:=lo) (λt ht=>h t (.inl (.inr ht))),kp (x:=hi) (λt ht=>h t (.inr ht))]
 case slA n s x lo hi =>
  simp only[LOp.tmps,ajx]at h;simp only[au,evD,aD (x:=x) (λt ht=>h t (.inl (.inl ht))),kp (x:=lo) (λt ht=>h t (.inl (.inr ht))),kp (x:=hi) (λt ht=>h t (.inr ht))]
 case slV s x lo hi mx =>
  simp only[LOp.tmps,ajx]at h;simp only[au,evD,aD (x:=x) (λt ht=>h t (.inl (.inl (.inl ht)))),kp (x:=lo) (λt ht=>h t (.inl (.inl (.inr ht)))),kp (x:=hi) (λt ht=>h t (.inl (.inr ht))),kp (x:=mx) (λt ht=>h t (.inr ht))]
 all_goals
  rename_i a x;simp only[LOp.tmps,ajx]at h;simp only[au,evD,aD (x:=a) (λt ht=>h t (.inl ht)),aD (x:=x) (λt ht=>h t (.inr ht))]
end
def aw.reads(o:aw):List Nat :=
 o.op.tmps++(match o.guard with|some (t,_)=>[t]|none=>[])
def AQv(P:Program)(o:aw)(T:Tm)(L:List Blk)(v:AV):Prop :=
 match o.op with
 | .call f xs=>match gR T xs with
   |some args=>af P f args L λav L'=>av=v/\L'=L
   |none=>False
 | .callv f xs=>match evX T f,gR T xs with
   |some (.func g caps),some args=>af P g (args++caps) L λav L'=>av=v/\L'=L
   |_,_=>False
 | lo=>match au T L lo with
   |some (c,av,L')=>c/\av=v/\L'=L
   |none=>False
def AQ(P:Program)(o:aw)(T:Tm)(L:List Blk)(v:AV):Prop :=
 match o.guard with
 |none=>AQv P o T L v
 | some (t,b)=>match ay T t with
   |some (.bool x)=>if x=b then AQv P o T L v else v=.tup []
   |some (.tup [])=>v=.tup []
   |_=>False
theorem AQ.congr{P:Program}{o:aw}{T T':Tm}{L:List Blk}(h:∀t∈o.reads,ay T t=ay T' t)(hq:AQ P o T L v):AQ P o T' L v:=by
 have h1:∀t∈o.op.tmps,ay T t=ay T' t:=λt ht=>h t (by simp[aw.reads,ht])
 have hv:AQv P o T L v->AQv P o T' L v:=λhv=>by unfold AQv at hv⊢;split at hv;rename_i f xs e;rw[e]at h1;rw[<- iB (l:=xs) h1];exact hv;rename_i f xs e;rw[e]at h1;simp only[LOp.tmps,ajx]at h1;rw[<- iB (l:=xs) (λt ht=>h1 t (.inr ht)),<- aD (x:=f) (λt ht=>h1 t (.inl ht))];exact hv;rw[<- Q9 h1];exact hv
 unfold AQ at hq⊢;split at hq;simp[*];rename_i t b hg;rw[<- h t (by simp[aw.reads,hg])]
 grind
def TL(T:Tm):List aw->List AV->Nat->(Nat->Bool)->Tm
 |o::qs,v::tr,k,f=>TL (if f k=true then cB o.dst v T else T) qs tr (k+1) f
 |_,_,_,_=>T
def ZC:List aw->Prop
 |[]=>True
 |o::qs=>(∀p∈qs,∀d,o.dst=some d->p.dst≠some d)/\ZC qs
theorem xY{T:Tm}(h:d≠some t):ay (cB d v T) t=ay T t:=by
 cases d with
 |none=>rfl
 |some d=>simp only[cB,ay];rw[if_neg (λe=>h (by rw[e]))]
theorem QX{T:Tm}:ay (cB (some t) v T) t=some v:=by simp[cB,ay]
theorem Uc{t:Nat}:∀{qs:List aw}{tr:List AV}{T:Tm}{k:Nat}{f:Nat->Bool},(∀(j:Nat) (o:aw),qs[j]?=some o->o.dst=some t->f (k+j)=false)->ay (TL T qs tr k f) t=ay T t
 |[],tr,T,k,f,_=>by cases tr<;>rfl
 |o::qs,[],T,k,f,_=>rfl
 | o::qs,v::tr,T,k,f,h=>by
   simp only[TL];rw[Uc (λj p hp hd=>by have:=h (j+1) p (by simpa using hp) hd;rwa[show k+1+j=k+(j+1)by omega])];split
   .rename_i hf;refine xY λe=>?_
    have:=h 0 o amN e;simp_all
   .rfl
theorem aby{t:Nat}{v:AV}:∀{qs:List aw}{tr:List AV}{T:Tm}{k:Nat}{f:Nat->Bool}{j:Nat}{o:aw},ZC qs->qs[j]?=some o->o.dst=some t->tr[j]?=some v->f (k+j)=true->ay (TL T qs tr k f) t=some v
 |[],_,_,_,_,j,o,_,h,_,_,_=>by simp at h
 |p::qs,[],_,_,_,j,o,_,_,_,h,_=>by simp at h
 |p::qs,u::tr,T,k,f,0,o,hD,h,hd,hv,hf=>by simp only[akn,ajt]at h hv;subst h hv;simp only[TL];simp only[akz]at hf;rw[if_pos hf,Uc λj q hq hqd=>absurd hqd (hD.1 q (akg hq) t hd),hd];exact QX
 |p::qs,u::tr,T,k,f,j+1,o,hD,h,hd,hv,hf=>by simp only[TL];exact aby hD.2 (by simpa using h) hd (by simpa using hv) (by rwa[show k+1+j=k+(j+1)by omega])
theorem X5:∀{qs:List aw}{tr:List AV}{T:Tm}{k:Nat}{f g:Nat->Bool},(∀j,j<qs.length->f (k+j)=g (k+j))->TL T qs tr k f=TL T qs tr k g
 |[],tr,T,k,f,g,_=>by cases tr<;>rfl
 |o::qs,[],T,k,f,g,_=>rfl
 |o::qs,v::tr,T,k,f,g,h=>by simp only[TL];have h0:=h 0 amN;simp only[akz]at h0;rw[h0];exact X5 λj hj=>by rw[show k+1+j=k+(j+1)by omega];exact h (j+1) (by simpa using hj)
theorem Zt:∀(qs:List aw) (tr:List AV) (T:Tm) (k:Nat),TL T qs tr k (λ_=>false)=T:=by
 intro qs;induction qs with
 |nil=>intro tr T k;cases tr<;>rfl
 | cons q qs ih=>intro tr T k;cases tr with
   |nil=>rfl
   |cons u tr=>simp only[TL];rw[ih];simp
theorem JU{t:Nat}:∀{qs:List aw}{i j:Nat}{o p:aw},ZC qs->qs[i]?=some o->qs[j]?=some p->o.dst=some t->p.dst=some t->i=j
 |[],i,j,o,p,_,h,_,_,_=>by simp at h
 |q::qs,0,0,o,p,_,_,_,_,_=>rfl
 |q::qs,0,j+1,o,p,hD,h1,h2,d1,d2=>by simp only[akn,ajt]at h1;subst h1;exact absurd d2 (hD.1 p (akg (by simpa using h2)) t d1)
 |q::qs,i+1,0,o,p,hD,h1,h2,d1,d2=>by simp only[akn,ajt]at h2;subst h2;exact absurd d1 (hD.1 o (akg (by simpa using h1)) t d2)
 |q::qs,i+1,j+1,o,p,hD,h1,h2,d1,d2=>by have:=JU (i:=i) (j:=j) (o:=o) (p:=p) hD.2 (by simpa using h1) (by simpa using h2) d1 d2;omega
theorem X3{qs:List aw}{tr:List AV}{T:Tm}{f:Nat->Bool}{j:Nat}{o:aw}(hD:ZC qs)(hl:tr.length=qs.length)(h:qs[j]?=some o)(hd:o.dst=some t):
  ay (TL T qs tr 0 f) t=if f j=true then tr[j]? else ay T t:=by
 have hj:j<tr.length:=by have:=(ajr.1 h).1;omega
 split;rename_i hf;rw[ajF hj];exact aby hD h hd (ajF hj) (by simpa using hf);rename_i hf;exact Uc λj' o' ho' hd'=>by have:=JU hD ho' h hd' hd;simp[*]
theorem X4{qs:List aw}{tr:List AV}{T:Tm}{f:Nat->Bool}(h:∀(j:Nat) (o:aw),qs[j]?=some o->o.dst≠some t):ay (TL T qs tr 0 f) t=ay T t :=
 Uc λj o ho hd=>absurd hd (h j o ho)
def abq(tbl:List Nat)(o:Oper):Nat:=(o.after.toList.filter λe=>Region.binds .any e).foldl (λacc e=>acc |||(1 <<< e.on) |||tbl.getD e.on 0) 0
def ml:List Oper->List Nat->List Nat
 |[],t=>t
 |o::l,t=>ml l (t++[abq t o])
def aeJ(ops:Array Oper)(tbl:List Nat):Bool:=ops.toList.zipIdx.all λ(o,i)=>tbl.getD i 0 == abq tbl o
theorem W7{o:Oper}{j:Nat}(h:(abq tbl o).testBit j=true):∃e∈o.after.toList,Region.binds .any e=true/\(j=e.on\/(tbl.getD e.on 0).testBit j=true):=by
 have key:∀(l:List Edge) (acc:Nat),(l.foldl (λacc e=>acc |||(1 <<< e.on) |||tbl.getD e.on 0) acc).testBit j=true->acc.testBit j=true\/∃e∈l,j=e.on\/(tbl.getD e.on 0).testBit j=true:=by
  intro l;induction l with
  |nil=>intro acc h;exact .inl h
  | cons e l ih =>
    intro acc h;rcases ih _ h with h1|⟨e',h1,h2⟩
    .rw[Nat.testBit_or,Nat.testBit_or,akc,akc]at h1;rcases h1 with(h1|h1)|h1
     .simp[*]
     .refine .inr ⟨e,amN,.inl ?_⟩;rw[Nat.one_shiftLeft,Nat.testBit_two_pow]at h1;exact(of_decide_eq_true h1).symm
     .exact .inr ⟨e,amN,.inr h1⟩
    .exact .inr ⟨e',by simp[h1],h2⟩
 rcases key _ _ h with h1|⟨e,h1,h2⟩;simp at h1;rw[aka]at h1;exact⟨e,h1.1,h1.2,h2⟩
def abp:List aw->Bool
 |[]=>true
 |o::qs=>(match o.dst with|some d=>qs.all λp => !(p.dst == some d)|none=>true)&&abp qs
theorem Vm:∀{qs:List aw},abp qs=true->ZC qs
 |[],_=>trivial
 |o::qs,h=>by simp only[abp,ajv]at h;refine⟨λp hp d hd=>?_,Vm h.2⟩;simp_all
def aip(tbl:List Nat)(los:List aw):Bool :=
 los.zipIdx.all λ(o,i)=>o.reads.all λt=>los.zipIdx.all λ(p,j) => !(p.dst == some t) ||(tbl.getD i 0).testBit j ||(tbl.getD j 0).testBit i
def VV(ops:Array Oper):Bool:=ops.toList.zipIdx.all λ(o,i)=>o.after.toList.all λe => !Region.binds .any e ||decide (e.on<i)
def aaE(tbl:List Nat)(n k:Nat):Bool:=(List.range k).all λi=>decide (i<n) ||(List.range i).all λj=>(tbl.getD i 0).testBit j
def W9(tbl:List Nat)(k:Nat):Nat->Nat
 |0=>0
 |n+1=>if((List.range n).all λj=>(tbl.getD n 0).testBit j)=true then W9 tbl k n else n+1
def Jx(ops:Array Oper)(los:List aw)(n:Nat):Bool :=
 let tbl:=ml ops.toList []
 abp los&&aip tbl los&&VV ops&&aeJ ops tbl&&aaE tbl n ops.size
def R5(ops:Array Oper)(listed:Array Bool):Prop:=∀(i:Nat) (o:Oper),listed.getD i false=true->ops[i]?=some o->∀e∈o.after,Region.binds .any e=true->listed.getD e.on false=true
theorem aa0{ops:Array Oper}(hf:aeJ ops tbl=true){o:Oper}(ho:ops[i]?=some o):tbl.getD i 0=abq tbl o:=by have:=ajE.1 hf (o,i) (by rw[alN];simpa using ho);simp_all
theorem J8{ops:Array Oper}(h:VV ops=true){o:Oper}(ho:ops[i]?=some o){e:Edge}(he:e∈o.after)(hb:Region.binds .any e=true):e.on<i:=by
 have:=ajE.1 h (o,i) (by rw[alN];simpa using ho)
 grind
theorem XV{ops:Array Oper}(h:VV ops=true)(hf:aeJ ops tbl=true):∀(i j:Nat),i<ops.size->(tbl.getD i 0).testBit j=true->j<i:=by
 intro i;induction i using Nat.strongRecOn with
 | _ i ih =>
   intro j hi hj;have ho:ops[i]?=some ops[i]:=akq hi;rw[aa0 hf ho]at hj;obtain⟨e,he,hb,hj⟩:=W7 hj;have hlt:=J8 h ho (by simpa using he) hb
   grind
theorem fO{ops:Array Oper}(h:VV ops=true)(hf:aeJ ops tbl=true){listed:Array Bool}(hc:R5 ops listed):∀(i j:Nat),i<ops.size ->
  (∀o,ops[i]?=some o->∀e∈o.after,Region.binds .any e=true->listed.getD e.on false=true)->(tbl.getD i 0).testBit j=true->listed.getD j false=true:=by
 intro i;induction i using Nat.strongRecOn with
 | _ i ih =>
   intro j hi hed hj;have ho:ops[i]?=some ops[i]:=akq hi;rw[aa0 hf ho]at hj;obtain⟨e,he,hb,hj⟩:=W7 hj;have hlt:=J8 h ho (by simpa using he) hb;have hl:=hed _ ho e (by simpa using he) hb;rcases hj with rfl|hj
   .omega
   .exact ih e.on hlt j amM (λo' ho' e' he' hb'=>hc e.on o' hl ho' e' he' hb') hj
theorem acM:∀(l:List Bool) (i:Nat),l[i]?=some false->(l.set i true).count false+1=l.count false
 |[],i,h=>by simp at h
 |b::l,0,h=>by simp at h;subst h;simp
 |b::l,i+1,h=>by grind
theorem xW{P:Program}{N:Nat}{own:Nat->Nat}{ops:Array Oper}:∀{is:List Nat}{los:List aw},b7 P N own ops is=some los->los.length=is.length/\∀(k i:Nat),is[k]?=some i->∃lo,los[k]?=some lo/\kD P N own ops i=some lo
 |[],los,h=>by simp[b7]at h;subst h;simp
 | j::is,los,h=>by
   simp only[b7]at h;split at h<;>try cases h
   rename_i o m h1 h2;have:=xW h2
   grind
section
variable {P:Program}{r:Option Nat}{w0:World}{S0:SB}{N:Nat}{own:Nat->Nat}{ops:Array Oper}{L:List Blk}
theorem ae5{i:Nat}{lo:aw}(h1:kD P N own ops i=some lo){T:Tm}{v:AV}{E:Env}{a:Act}{w:World}(hst:St w0 S0 N E T L a w)(hq:AQ P lo T L v){K:Act->World->Prop}{Q:Exit->Act->World->Prop}(hK:∀E' a' w',E.le E'->St w0 S0 N E' (cB lo.dst v T) L a' w'->K a' w'):wpOpIn (fM r) 0 P ops Q i K a w:=by
 obtain⟨o,ho,hop,hdst,hd,hg⟩:=gP h1;obtain⟨ld,lop,lg⟩:=lo;simp only at hop hdst hg hK;subst hdst;unfold wpOpIn;simp only[ho];have toOp:AQv P ⟨o.dst,lop,lg⟩ T L v->AOp P ⟨o.dst,lop,lg⟩ (λT' L'=>T'=cB o.dst v T/\L'=L) T L:=λhv=>by
  unfold AQv at hv;unfold AOp;simp only at hv⊢;split at hv;split at hv;rename_i f xs _ args he;show Cal P f _ o.dst T L (gR T xs);rw[he];exact hv.mono λav L' ⟨e1,e2⟩=>by subst e1;exact⟨rfl,e2⟩
  simp_all;split at hv;rename_i f xs _ _ g caps args he1 he2;show ac2 P _ o.dst T L (evX T f) (gR T xs);rw[he1,he2];exact hv.mono λav L' ⟨e1,e2⟩=>by subst e1;exact⟨rfl,e2⟩
  simp_all;split at hv;rename_i c av L' he;have hres:Res (λT' L'=>T'=cB o.dst v T/\L'=L) o.dst T (au T L lop):=by rw[he];obtain⟨hc,rfl,rfl⟩:=hv;exact⟨hc,rfl,rfl⟩
  simp_all;simp_all
 have go:AQv P ⟨o.dst,lop,lg⟩ T L v->o.wpIn (fM r) 0 P a w K Q:=λhv =>
  J7 hop hd hst (toOp hv) λE' T' L' a' w' hle hk hst'=>by grind
 unfold AQ at hq;rcases hg with⟨g1,g2⟩|⟨j,b,t,g1,g2,g3,g4⟩;subst g2;simp only at hq;rw[if_pos (by simp[Region.wanted,g1])];simp[*];subst g4;simp only at hq;have hy:=iO (E:=E) (T:=T) (a:=a) (ops:=ops) hst.2.1 g2 (by rw[hst.2.2.1];exact g3);split at hq;rename_i x hx;have:=hy.1 x hx;by_cases e:x=b;rw[if_pos e]at hq;rw[if_pos (by simp[Region.wanted,g1,this,e])];simp[*];rw[if_neg e]at hq;subst hq;rw[if_neg (by simp[Region.wanted,g1,this,e])];exact⟨λ_ _=>trivial,hK E _ w (.refl E) (OV hst hd)⟩;rename_i hx;have:=hy.2 hx;subst hq;rw[if_neg (by simp[Region.wanted,g1,this])];exact⟨λ_ _=>trivial,hK E _ w (.refl E) (OV hst hd)⟩;simp_all
theorem VU{i:Nat}{lo:aw}(h1:kD P N own ops i=some lo){T:Tm}{L:List Blk}{E:Env}{a:Act}{w:World}(hst:St w0 S0 N E T L a w){K:Tm->List Blk->Prop}(h:ku P K [lo] T L){K':Act->World->Prop}{Q:Exit->Act->World->Prop}(hK:∀E' T' L' a' w',E.le E'->K T' L'->St w0 S0 N E' T' L' a' w'->K' a' w'):wpOpIn (fM r) 0 P ops Q i K' a w:=by
 obtain⟨o,ho,hop,hdst,hd,hg⟩:=gP h1;obtain⟨ld,lop,lg⟩:=lo;subst hdst;unfold wpOpIn;simp only[ho];have go:AOp P ⟨o.dst,lop,lg⟩ (ku P K []) T L->o.wpIn (fM r) 0 P a w K' Q:=λh' =>
  J7 hop hd hst h' λE' T' L' a' w' hle hk' hst'=>hK E' T' L' a' w' hle hk' hst'
 have skip:K (cB o.dst (.tup []) T) L->K' (a.put o.dst undef) w:=λh'=>hK E _ L _ w (.refl E) h' (OV hst hd)
 rcases hg with⟨g1,g2⟩|⟨j,b,t,g1,g2,g3,g4⟩;subst g2;rw[if_pos (by simp[Region.wanted,g1])];exact(go h);subst g4;simp only[ku]at h;have hy:=iO (E:=E) (T:=T) (a:=a) (ops:=ops) hst.2.1 g2 (by rw[hst.2.2.1];exact g3);rcases hx:ay T t with _|u;rw[hx]at h;exact h.elim;rw[hx]at h;cases u<;>try exact h.elim
 rename_i x;rw[xL]at h;have:=hy.1 x hx;by_cases e:x=b;rw[if_pos (by simp[Region.wanted,g1,this,e])];rw[if_pos e]at h;exact(go h);rw[if_neg (by simp[Region.wanted,g1,this,e])];rw[if_neg e]at h;exact⟨λ_ _=>trivial,skip h⟩;rename_i l;cases l with
 |cons _ _=>exact h.elim
 | nil =>
   have:=hy.2 hx;rw[if_neg (by simp[Region.wanted,g1,this])];exact⟨λ_ _=>trivial,skip h⟩
theorem ZO{los:List aw}{tbl:List Nat}{n:Nat}(hlow:b7 P N own ops (List.range ops.size)=some los)(hahead:VV ops=true)(hfix:aeJ ops tbl=true)(hchain:aaE tbl n ops.size=true){K:Tm->List Blk->Prop}{Q:Exit->Act->World->Prop}{E0:Env}(hQ:∀E' T' L' a' w',E0.le E'->K T' L'->St w0 S0 N E' T' L' a' w'->Q .normal a' w'):
  ∀(ts:List aw) (k:Nat) (listed:Array Bool) (T:Tm) (L:List Blk) (a:Act) (w:World) (E:Env),n<=k->k+ts.length=ops.size->los.drop k=ts->listed.size=ops.size ->
   (∀i,i<ops.size->listed.getD i false=decide (i<k))->R5 ops listed->E0.le E->St w0 S0 N E T L a w->ku P K ts T L->wpAnyIn (fM r) 0 P .any ops Q ts.length listed a w:=by
 have hget:=xW hlow;have ready:∀(k:Nat) (listed:Array Bool),n<=k->listed.size=ops.size->(∀i,i<ops.size->listed.getD i false=decide (i<k))->R5 ops listed->∀i∈Region.ready .any ops listed,i=k:=by
  intro k listed hnk hsz hl hcl i hi;obtain⟨hun,o,ho,hed⟩:=mem_ready.1 hi;have hi':i<ops.size:=(akf.1 ho).1;have hik:¬i<k:=λe=>by simp_all
  rcases ajT k i with h1|h1;have:=ajE.1 hchain i (by simpa using hi');simp only[akc,decide_eq_true_eq]at this;rcases this with h2|h2;omega;have h3:=ajE.1 h2 k (by simpa using h1);have h4:=fO hahead hfix hcl i k hi' (λo' ho'=>by rw[ho]at ho';cases ho';exact hed) h3
  grind
  omega
 intro ts;induction ts with
 | nil =>
   intro k listed T L a w E hnk hk hts hsz hl hcl hE hst h;refine⟨List.eq_nil_iff_forall_not_mem.2 (λi hi=>?_),hQ E T L a w hE h hst⟩;have h1:=ready k listed hnk hsz hl hcl i hi;obtain⟨_,o,ho,_⟩:=mem_ready.1 hi;simp_all
 | cons t ts ih =>
   intro k listed T L a w E hnk hk hts hsz hl hcl hE hst h;simp only[ajz]at hk;have hkl:k<ops.size:=amM;have hmem:k∈Region.ready .any ops listed:=by
    refine mem_ready.2 ⟨?_,ops[k],akq hkl,λe he hbd=>?_⟩
    .simp_all
    .have:=J8 hahead (akq hkl) he hbd;rw[hl _ amM];simpa using this
   refine⟨λe=>absurd hmem (by rw[e];simp),λi hi=>?_⟩;have hik:=ready k listed hnk hsz hl hcl i hi;subst hik;obtain⟨lo,g1,g2⟩:=hget.2 i i (by simp[hkl]);have ht:lo=t:=by have:=congrArg (λl=>l[0]?) hts;simp only[aki,akz,akn]at this;rw[g1]at this;exact Option.some.inj this
   subst ht;have h':ku P (ku P K ts) [lo] T L:=by obtain⟨d,op,g⟩:=lo;cases g<;>exact h
   exact VU g2 hst h' λE' T' L' a' w' hle hk' hst'=>by
    refine ih (i+1) (listed.setIfInBounds i true) T' L' a' w' E' amM amM ?_ (by simpa using hsz) (λj hj=>?_) ?_ (hE.trans hle) hst' hk'
    .rw[<- List.drop_drop,hts];rfl
    .by_cases e:j=i
     .subst e;have:j<listed.size:=amM;simp[akZ,this]
     .rw[getD_set_ne false (Ne.symm e),hl j hj];congr 1;apply propext;omega
    .intro j o' hj ho' e he hb;have h5:=J8 hahead ho' he hb;have h6:j<ops.size:=(akf.1 ho').1;by_cases e1:j=i
     .subst e1;rw[getD_set_ne false amM,hl _ amM];simpa using h5
     .rw[getD_set_ne false (Ne.symm e1)]at hj;rw[getD_set_ne false (by rw[hl j h6]at hj;simp at hj;omega)];exact hcl j o' hj ho' e he hb
def lst(L:List Blk)(al:Option (Nat×List AV))(listed:Array Bool):List Blk :=
 match al with
 |some (i,z)=>if listed.getD i false=true then L++[.cells z]else L
 |none=>L
end
end Go.Proofs.YtdnfjhflkkpokaaGreatDoor.Av
