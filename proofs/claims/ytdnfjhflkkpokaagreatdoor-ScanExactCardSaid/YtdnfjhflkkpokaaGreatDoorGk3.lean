/- Joined texts of the walk, made small by a program. -/
import Derived.Test.YtdnfjhflkkpokaaGreatDoorGk2
import Derived.MapKept
set_option linter.unusedSimpArgs false
set_option linter.unusedVariables false
namespace Go.Proofs.YtdnfjhflkkpokaaGreatDoor.Av
open Go
variable {f:FuncId}{i t:Nat}{args:List AV}{K:Tm->List Blk->Prop}{d:Option Nat}{b:Bool}{v:AV}{tbl:List Nat}
section
variable {P:Program}{w0:World}{S0:SB}{E:Env}{L:List Blk}{w:World}{T:Tm}{a:Act}
theorem aix{own:Nat}{s d:TypeId}{x:Operand}{z:Opd}{A:LOp}{c:Prop}{av:AV}{L':List Blk}(r:Rel w0 S0 E L w)(p:TR E T a)(o:bV x=some z)(h:EM P own s d z=some A)(b:au T L A=some (c,av,L'))(v:c):
  fj P w0 S0 E L' av w (do pure (.value (<- convert s d (a.eval x)))):=by
 unfold EM at h;split at h;rename_i j k m i;cases h;simp only[au]at b;split at b<;>try cases b
 rename_i q n g;exact(aht r ⟨j,m⟩ i (aq o g p)).done;rename_i m i;cases h;simp only[au]at b;split at b<;>try cases b
 rename_i l g;exact(afb r m i (aq o g p) ⟨l,rfl⟩).done;rename_i e m i;split at h<;>try cases h
 rename_i f;simp only[au]at b;split at b<;>try cases b
 rename_i u B g;split at b<;>try cases b
 rename_i c' l n C;exact(ajH r m f i (aq o g p) C v.1 v.2 (λt e=>B t e)).done
 .rename_i e m i;split at h<;>try cases h
  rename_i f
  repeat' split at h
  all_goals cases h
  simp only[au]at b;split at b<;>try cases b
  rename_i y g;exact(ahn r m i f (aq o g p)).done;simp only[au]at b;split at b<;>try cases b
  rename_i y g;exact(aho r m i f (aq o g p)).done;simp only[au]at b;split at b<;>try cases b
  rename_i y g;exact(ajE r m i f (aq o g p)).done
 simp_all
theorem agn{xs:List Operand}{a:List Opd}(h:oV xs=some a):a.length=xs.length/\∀(i:Nat) (y:Opd),a[i]?=some y->∃x,xs[i]?=some x/\bV x=some y:=by
 induction xs generalizing a with
 |nil=>simp[oV]at h;subst h;simp
 | cons x xs ih =>
   simp only[oV,arM]at h;rcases h1:bV x with _|y
   .simp_all
   .rcases h2:xs.mapM bV with _|b
    .simp_all
    .have:=ih (by simpa[oV]using h2)
     grind
theorem ake{xs:List Operand}{y:Opd}(h:oV xs=some [y]):∃x,xs=[x]/\bV x=some y:=by
 have:=agn h
 match xs,this with
 | [x],⟨_,h2⟩ =>
   obtain⟨z,a,h4⟩:=h2 0 y asp
   grind
theorem aeb{xs:List Operand}{y z:Opd}(h:oV xs=some [y,z]):∃u v,xs=[u,v]/\bV u=some y/\bV v=some z:=by
 have:=agn h
 match xs,this with
 | [u,v],⟨_,h2⟩ =>
   obtain⟨p,b,h4⟩:=h2 0 y asp;obtain⟨q,c,a⟩:=h2 1 z asp
   grind
theorem akV{own:Nat}{t:TypeId}{y:Opd}{xs:List Operand}{ty:TypeId}{cs:Array Bool}{D:LOp}{c:Prop}{av:AV}{L':List Blk}(C:Rel w0 S0 E L w)(z:TR E T a)(G:oV xs=some [y])(m:dH P own .len [t] [y]=some D)(j:au T L D=some (c,av,L')):fj P w0 S0 E L' av w (builtin .len ⟨[t]⟩ ty cs ⟨xs.map a.eval⟩):=by
 obtain⟨x,rfl,l⟩:=ake G;have i:∀(n:Int),(Builtin.len_ #[t] ty #[a.eval x]).run P w=.ok (.int .i64 n) w->fj P w0 S0 E L (.int .i64 n) w (builtin .len ⟨[t]⟩ ty cs ⟨[x].map a.eval⟩):=λn h=>.same C (v:=.int .i64 n) (by simp[builtin,h]) (by simp[VR])
 simp only[dH]at m;split at m;rename_i k;cases m;simp only[au]at j;split at j<;>try cases j
 rename_i s r;have g:=aq l r z;simp only[VR]at g;have B:(ByteArray.mk ⟨s⟩).size=s.length:=rfl;exact i _ (by simp only[Builtin.len_,arg,apU,ao7,run_underlying k,ao9,g,goInt,B,apF])
 .rename_i e k;cases m;simp only[au]at j;split at j<;>try cases j
  all_goals rename_i r;have g:=aq l r z
  simp only[VR]at g;exact i _ (by simp[Builtin.len_,run_underlying k,g,goInt]);obtain⟨_,_,g,_⟩:=g;exact i _ (by simp[Builtin.len_,run_underlying k,g,goInt]);obtain⟨_,_,g,_⟩:=g;exact i _ (by simp[Builtin.len_,run_underlying k,g,goInt]);obtain⟨_,_,g⟩:=g.lsl_shape;exact i _ (by simp[Builtin.len_,run_underlying k,g,goInt])
 rename_i n e k;cases m;obtain⟨rfl,rfl,rfl⟩:=j;exact i _ (by simp[Builtin.len_,run_underlying k,goInt])
 .rename_i kt et k;cases m;simp only[au]at j;split at j<;>try cases j
  all_goals rename_i r;have g:=aq l r z
  simp only[VR]at g;exact i _ (by simp[Builtin.len_,run_underlying k,g,goInt]);split at j<;>try cases j
  rename_i es ck F;obtain⟨d,u,g⟩:=g;obtain⟨J,rs,g1,H,g3⟩:=C.blk _ _ F;rw[u]at g1;cases g1;have o:∀{es:List (AV×AV×Nat)}{rs:List MapEntry},aI E es rs->rs.length=es.length:=by
   intro es;induction es with
   |nil=>intro rs h;simp only[aI]at h;subst h;rfl
   |cons p es ih=>intro rs h;obtain⟨q,y,b⟩:=p;obtain⟨f,s,rfl,_,_,_,g4⟩:=h;simp[ih g4]
  have I:(getObj d.blk).run P w=.ok (.map rs ck) w:=(by simp[getObj,Sem.run,H]);have A:rs.size=es.length:=(by rw[<- o g3];simp);exact i _ (by simp[Builtin.len_,run_underlying k,g,goInt,I,A])
 simp_all
theorem akX{own:Nat}{t:TypeId}{y:Opd}{xs:List Operand}{ty:TypeId}{cs:Array Bool}{l:LOp}{c:Prop}{av:AV}{L':List Blk}(p:Rel w0 S0 E L w)(o:TR E T a)(m:oV xs=some [y])(i:dH P own .cap [t] [y]=some l)(g:au T L l=some (c,av,L')):fj P w0 S0 E L' av w (builtin .cap ⟨[t]⟩ ty cs ⟨xs.map a.eval⟩):=by
 obtain⟨x,rfl,k⟩:=ake m;have b:∀(n:Int),(Builtin.cap_ #[t] ty #[a.eval x]).run P w=.ok (.int .i64 n) w->fj P w0 S0 E L (.int .i64 n) w (builtin .cap ⟨[t]⟩ ty cs ⟨[x].map a.eval⟩):=λn h=>.same p (v:=.int .i64 n) (by simp[builtin,h]) (by simp[VR])
 simp only[dH]at i;split at i
 .rename_i e f;cases i;simp only[au]at g;split at g<;>try cases g
  all_goals rename_i q;have d:=aq k q o;simp only[VR]at d
  exact b _ (by simp[Builtin.cap_,run_underlying f,d,goInt]);obtain⟨_,_,d,_,j,_⟩:=d;exact b _ (by simp[Builtin.cap_,run_underlying f,d,goInt,j _ rfl]);obtain⟨_,_,_,_,d,_,_,j,_⟩:=d;exact b _ (by simp[Builtin.cap_,run_underlying f,d,goInt,j _ rfl])
 rename_i n e f;cases i;simp only[au,evX,apl,ao1,apf]at g;obtain⟨rfl,rfl,rfl⟩:=g;exact b _ (by simp[Builtin.cap_,run_underlying f,goInt]);simp_all
theorem acT{own:Nat}{b:Builtin}{ts:List TypeId}{xs:List Operand}{Y:List Opd}{ty:TypeId}{cs:Array Bool}{W:LOp}{c:Prop}{av:AV}{L':List Blk}(x:Rel w0 S0 E L w)(g:TR E T a)(D:oV xs=some Y)(f:dH P own b ts Y=some W)(d:au T L W=some (c,av,L'))(C:c)(X:b=.delete->fj P w0 S0 E L' av w (builtin b ⟨ts⟩ ty cs ⟨xs.map a.eval⟩)):fj P w0 S0 E L' av w (builtin b ⟨ts⟩ ty cs ⟨xs.map a.eval⟩):=by
 have K:=f;unfold dH at f;split at f;exact akV x g D K d;exact akX x g D K d;rename_i t t' y z;obtain⟨u,v,rfl,j,A⟩:=aeb D;have key:∀e s B G,P.underlying t=some (.slice e)->((∃e',P.underlying t'=some (.slice e'))\/P.underlying t'=some .string)->dr P e=some s->aab P e=some B->zOf P e=some G->G.length=s->W=.app own s B G y z ->
   fj P w0 S0 E L' av w (builtin .append ⟨[t,t']⟩ ty cs ⟨[u,v].map a.eval⟩):=λe s B G V Q I h4 H F R=>by
  subst R;simp only[au]at d;split at d<;>try cases d
  rename_i p q h o;exact(ajI x V Q I h4 H F (aq j h g) (aq A o g) d C).done
 split at f
 grind
 grind
 rename_i e q V Q;split at f<;>try cases f
 rename_i s B G I h4 H;split at f<;>try cases f
 rename_i F;simp only[au]at d;split at d<;>try cases d
 rename_i i off m cp s2 q2 k h o;split at d<;>try cases d
 rename_i l O;split at d<;>try cases d
 rename_i r;subst r;exact(ahw x V Q I h4 H F (aq j h g) (aq A o g) O C).done;simp_all;rename_i t t' y z;obtain⟨u,v,rfl,j,A⟩:=aeb D;split at f<;>try cases f
 rename_i e J;rcases hs:dr P e with _|s;simp_all;simp only[hs,apl,ao1]at f;subst f;simp only[au]at d;rcases o:evX T z with _|q;simp_all;simp only[o,aqf]at d;split at d;rename_i c' U n h S;obtain⟨rfl,rfl,rfl⟩:=d;exact((abk x J hs (aq j h g) (aq A o g) S C).1 rfl).done;rename_i i off m cap Z c' U n h S;split at d<;>try cases d
 rename_i l O;split at d<;>try cases d
 rename_i r;subst r;exact((abk x J hs (aq j h g) (aq A o g) S C.1).2 _ _ _ _ _ rfl O C.2.1 C.2.2).done;simp_all;rename_i t y;obtain⟨u,rfl,j⟩:=ake D;split at f<;>try cases f
 rename_i e J;split at f<;>try cases f
 rename_i s G I H;split at f<;>try cases f
 rename_i F;simp only[au]at d;split at d<;>try cases d
 rename_i h;exact((Zx x J I H F (aq j h g)).1 rfl).done;rename_i i off m cap Z h;split at d<;>try cases d
 rename_i l O;split at d<;>try cases d
 rename_i r;subst r;exact((Zx x J I H F (aq j h g)).2 _ _ _ _ _ rfl O C).done;simp[*];rename_i y z;obtain⟨u,v,rfl,j,A⟩:=aeb D;cases f;simp only[au]at d;split at d<;>try cases d
 rename_i k m k' n h o;have N:=aq j h g;have M:=aq A o g;simp only[VR]at N M;refine .same x (v:=.int k (if n>m then n else m)) ?_ (by simp[VR]);simp[builtin,Builtin.max_,Builtin.max2,N,M];rename_i y z;obtain⟨u,v,rfl,j,A⟩:=aeb D;cases f;simp only[au]at d;split at d<;>try cases d
 rename_i k m k' n h o;have N:=aq j h g;have M:=aq A o g;simp only[VR]at N M;refine .same x (v:=.int k (if n<m then n else m)) ?_ (by simp[VR]);simp[builtin,Builtin.min_,Builtin.min2,N,M];simp_all
end
open Go Go.MapKept
section
variable {P:Program}{w0:World}{S0:SB}{E:Env}{L:List Blk}{w:World}{T:Tm}{a:Act}
def lY.desc:lY->TypeDesc->Prop
 |.int,d=>∃k,d=.int k
 |.str,d=>d=.string
 |.bool,d=>d=.bool
 |.st _,_=>False
def lY.flat:lY->Bool
 |.st _=>false
 |_=>true
theorem XD{c:TypeId}{kd:lY}(h:ia P c=some kd)(b:kd.flat=true):∃d,P.underlying c=some d/\kd.desc d:=by
 unfold ia at h;split at h<;>try simp only[ao1,reduceCtorEq]at h
 rename_i k a;subst h;exact⟨_,a,k,rfl⟩;rename_i a;subst h;exact⟨_,a,rfl⟩;rename_i a;subst h;exact⟨_,a,rfl⟩;split at h;simp only[apE]at h;obtain⟨_,_,rfl⟩:=h;cases b;cases h
theorem abg{kd:lY}{d:TypeDesc}{k q:AV}{u v:Value}{b:Bool}(c:kd.desc d)(f:kd.flat=true)(j:bS kd k=true)(i:VR E k u)(g:VR E q v)(h:JM k q=some b):Instr.sameNow d u v=some b:=by
 cases kd<;>try (cases f;done)
 all_goals cases k<;>simp only[bS,apj]at j<;>cases q<;>simp only[JM,reduceCtorEq]at h<;>simp only[VR]at i g<;>subst i<;>subst g<;>simp only[lY.desc]at c
 obtain⟨k,rfl⟩:=c;split at h<;>simp only[ao1,reduceCtorEq]at h;rename_i e;subst e;subst h;simp only[Instr.sameNow,if_true];rfl;subst c;simp only[ao1]at h;subst h;simp only[Instr.sameNow,ao1];rename_i a b;by_cases e:a=b;subst e;simp[bytes_beq];simp only[e,decide_false];rcases h':(({data:={toList:=a}}:ByteArray) == {data:={toList:=b}})with _|_;rfl;have:=(bytes_beq _ _).1 h';simp_all;subst c;simp only[ao1]at h;subst h;rfl
theorem ahf{kd:lY}{c:TypeId}{d:TypeDesc}{k:AV}{u:Value}(b:P.underlying c=some d)(a:kd.desc d)(g:bS kd k=true)(f:VR E k u)(e:Bool)(n:Nat):(Instr.checkKey e (n+1) c u).run P w=.ok () w:=by
 unfold Instr.checkKey;cases kd<;>try (exact a.elim)
 all_goals cases k<;>simp only[bS,apj]at g<;>simp only[VR]at f<;>subst f<;>simp only[lY.desc]at a
 obtain⟨k,rfl⟩:=a;simp[ao7,run_underlying b,Result.andThen];subst a;simp[ao7,run_underlying b,Result.andThen];subst a;simp[ao7,run_underlying b,Result.andThen]
theorem ajm{kd:lY}{k q:AV}{u v:Value}(a:kd.flat=true)(d:bS kd k=true)(c:VR E k u)(b:VR E q v)(h:JM k q=some true)(n:Nat):Instr.sameBits n v u=true:=by
 cases kd<;>try (cases a;done)
 all_goals cases k<;>simp only[bS,apj]at d<;>cases q<;>simp only[JM,reduceCtorEq]at h<;>simp only[VR]at c b<;>subst c<;>subst b
 split at h<;>simp only[ao1,reduceCtorEq,decide_eq_true_eq]at h;rename_i e;subst e;subst h;simp[Instr.sameBits];simp only[ao1,decide_eq_true_eq]at h;subst h;simp[Instr.sameBits,bytes_beq];simp only[ao1,decide_eq_true_eq]at h;subst h;simp[Instr.sameBits]
theorem Zk{kd:lY}{d:TypeDesc}{k:AV}{u:Value}(m:kd.desc d)(a:kd.flat=true)(n:bS kd k=true)(g:VR E k u):∀{es:List (AV×AV×Nat)}{rs:List MapEntry}{i:Nat}{r:Option (Nat×AV)},aI E es rs->dG k es i=some r ->
  match r with
  |none=>Instr.findNow d u rs i=some none
  |some (j,x)=>∃c e q b,j=i+c/\Instr.findNow d u rs i=some (some (i+c,e.val))/\rs[c]?=some e/\es[c]?=some (q,x,b)/\VR E x e.val/\VR E q e.key/\JM k q=some true
 |[],rs,i,r,hm,h=>by simp only[aI]at hm;subst hm;simp only[dG,ao1]at h;subst h;rfl
 | (q,x,b)::l,rs,i,r,hm,h=>by
   obtain⟨e,t,rfl,o,w,C,h4⟩:=hm;simp only[dG]at h;split at h
   .rename_i hq;simp only[ao1]at h;subst h;have:=abg m a n g o hq;exact⟨0,e,q,b,rfl,by simp[Instr.findNow,this],rfl,rfl,w,o,hq⟩
   .rename_i hq;have s:=abg m a n g o hq;have f:=Zk m a n g h4 h;cases r with
    |none=>simp only at f⊢;simp[Instr.findNow,s,f]
    | some p =>
      obtain⟨j,y⟩:=p;obtain⟨c,B,A,v,rfl,g1,z,g3,g4⟩:=f;exact⟨c+1,B,A,v,aso,by simp[Instr.findNow,s,g1];omega,by simpa using z,by simpa using g3,g4⟩
   .cases h
theorem alR{t:TypeId}{k:Fq}(h:aeS P t=some k)(e:Bool)(n:Nat)(v:Value)(w:World):(Instr.checkKey e (n+1) t v).run P w=.ok () w:=by unfold Instr.checkKey;rcases Wd h with⟨_,q,a⟩|⟨_,a⟩|⟨_,a⟩<;>simp[ao7,run_underlying a,Result.andThen]
theorem aj4{c:TypeId}{ks:List Fq}{a:Array Field}{cs:Array Value}(o:P.underlying c=some (.struct a))(p:N2 P 0 a.toList ks)(r:ks.length<=cs.size)(e:Bool)(n:Nat)(w:World):
  (Instr.checkKey e (n+2) c (.agg cs)).run P w=.ok () w:=by
 have key:∀ (l:List Field) (ks:List Fq) (i:Nat),N2 P i l ks->i+ks.length<=cs.size->∀ (body:Field->PUnit->Sem (ForInStep PUnit)),(∀ f u,body f u=if f.name ≠ "_" then (do let x <- part f.type cs f.offset;Instr.checkKey e (n+1) f.type x;pure (ForInStep.yield PUnit.unit)) else pure (ForInStep.yield PUnit.unit))->(forIn l PUnit.unit body).run P w=.ok PUnit.unit w:=by
  intro l;induction l with
  |nil=>intro ks i _ _ body _;simp
  | cons f l ih =>
    intro ks i h g body m;cases ks with
    |nil=>simp[N2]at h
    | cons k ks =>
      obtain⟨q,j,b,h4⟩:=h;simp only[apb]at g;obtain⟨v,d⟩:∃v,cs[i]?=some v:=⟨_,apW aso⟩;rw[List.forIn_cons,m,if_pos j,q];simp only[ao7,aeL b d,alR b,ao9,apF]
      grind
 unfold Instr.checkKey;simp only[ao7,run_underlying o,ao9];have:=key a.toList ks 0 p aso _ (λf u=>rfl);simp_all
theorem XL{c:TypeId}{ks:List Fq}{v:Array Field}(m:P.underlying c=some (.struct v))(g:P.stoodInHeld c=false)(n:N2 P 0 v.toList ks){l:List AV}{u:Value}(k:tu ks l=true)(f:VR E (.agg l) u)(w:World):∀{es:List (AV×AV×Nat)}{rs:List MapEntry}{i:Nat}{r:Option (Nat×AV)},aI E es rs->dG (.agg l) es i=some r ->
  match r with
  |none=>(Instr.findAsking c u rs i).run P w=.ok none w
  |some (j,x)=>∃a e q b,j=i+a/\(Instr.findAsking c u rs i).run P w=.ok (some (i+a,e.val)) w/\rs[a]?=some e/\es[a]?=some (q,x,b)/\VR E x e.val/\VR E q e.key/\JM (.agg l) q=some true
 |[],rs,i,r,hm,h=>by simp only[aI]at hm;subst hm;simp only[dG,ao1]at h;subst h;rfl
 | (q,x,b)::es,rs,i,r,hm,h=>by
   obtain⟨e,t,rfl,o,A,F,h4⟩:=hm;simp only[dG]at h;split at h
   .rename_i hq;simp only[ao1]at h;subst h;have:=ZE m g n k f o hq w;exact⟨0,e,q,b,rfl,by simp[Instr.findAsking,this],rfl,rfl,A,o,hq⟩
   .rename_i hq;have s:=ZE m g n k f o hq w;have d:=XL m g n k f w h4 h;cases r with
    |none=>simp only at d⊢;simp[Instr.findAsking,s,d]
    | some p =>
      obtain⟨j,y⟩:=p;obtain⟨a,D,C,z,rfl,g1,B,g3,g4⟩:=d;exact⟨a+1,D,C,z,aso,by simp[Instr.findAsking,s,g1];omega,by simpa using B,by simpa using g3,g4⟩
   .cases h
theorem akb:∀{l m:List AV}{us vs:List Value}{ks:List Fq}(n:Nat),tu ks l=true->VRL E l us->VRL E m vs->JE l m=some true->us.length=vs.length/\((vs.zip us).all λ(x,y)=>Instr.sameBits n x y)=true
 | [],m,us,vs,ks,n,hp,hl,hm,hq=>by
   cases m with
   |cons b m=>simp[JE]at hq
   |nil=>simp only[VRL]at hl hm;subst hl;subst hm;simp
 | a::l,m,us,vs,ks,n,hp,hl,hm,hq=>by
   cases m with
   |nil=>simp[JE]at hq
   | cons b m =>
     cases ks with
     |nil=>simp[tu]at hp
     | cons k ks =>
       simp only[tu,ao3]at hp;obtain⟨u,o,rfl,h,d⟩:=hl;obtain⟨v,j,rfl,g,f⟩:=hm;simp only[JE]at hq;cases hk:Zp a b with
       |none=>rw[hk]at hq;cases hq
       | some c =>
         rw[hk]at hq;cases c with
         |false=>simp at hq
         | true =>
           obtain⟨i,i2⟩:=akb n hp.2 d f hq;refine⟨by simp[i],?_⟩;simp only[List.zip_cons_cons,aqd,i2,arh];cases a<;>cases b<;>simp only[Zp,reduceCtorEq]at hk<;>simp only[VR]at h g<;>subst h<;>subst g
           .simp only[ao1,decide_eq_true_eq]at hk;subst hk;simp[Instr.sameBits]
           .split at hk<;>simp only[ao1,reduceCtorEq,decide_eq_true_eq]at hk;rename_i e;subst e;subst hk;simp[Instr.sameBits]
           .simp only[ao1,decide_eq_true_eq]at hk;subst hk;simp[Instr.sameBits,bytes_beq]
theorem m8{kd:lY}{g:TypeId}{k:AV}{u:Value}(a:ia P g=some kd)(c:bS kd k=true)(h:VR E k u)(e:Bool):(Instr.checkKey e 10000 g u).run P w=.ok () w:=by
 cases hfl:kd.flat with
 | true =>
   obtain⟨d,f,i⟩:=XD a hfl;exact ahf f i c h e 9999
 | false =>
   cases kd<;>simp only[lY.flat,reduceCtorEq]at hfl;obtain⟨l,f,i,j⟩:=We a;cases k<;>simp only[bS,apj]at c;obtain⟨us,rfl,b⟩:=h;exact aj4 f j (by rw[aa5 c];simp[b.length]) e 9998 w
theorem ahg{kd:lY}{k q:AV}{u v:Value}(b:bS kd k=true)(e:VR E k u)(d:VR E q v)(h:JM k q=some true):Instr.sameBits 10000 v u=true:=by
 cases hfl:kd.flat with
 |true=>exact ajm hfl b e d h 10000
 | false =>
   cases kd<;>simp only[lY.flat,reduceCtorEq]at hfl;cases k<;>simp only[bS,apj]at b;cases q<;>simp only[JM,reduceCtorEq]at h;obtain⟨us,rfl,a⟩:=e;obtain⟨vs,rfl,c⟩:=d;obtain⟨f,i2⟩:=akb 9999 b a c h;simp only[Instr.sameBits,i2,arh];simp[f]
theorem Ei{kd:lY}{a:TypeId}{k:AV}{u:Value}(c:ia P a=some kd)(l:bS kd k=true)(m:VR E k u){es:List (AV×AV×Nat)}{rs:List MapEntry}{r:Option (Nat×AV)}(n:aI E es rs)(h:dG k es 0=some r)(w:World):
  match r with
  |none=>(Instr.findKey a u rs).run P w=.ok none w
  |some (j,x)=>∃e q b,(Instr.findKey a u rs).run P w=.ok (some (j,e.val)) w/\rs[j]?=some e/\es[j]?=some (q,x,b)/\VR E x e.val/\VR E q e.key/\JM k q=some true:=by
 cases hfl:kd.flat with
 | true =>
   obtain⟨d,f,g⟩:=XD c hfl;have i:=Zk g hfl l m n h;cases r with
   |none=>exact run_findKey f i
   | some p =>
     obtain⟨j,x⟩:=p;obtain⟨v,e,q,b,rfl,g1,t,g3,g4⟩:=i;exact⟨e,q,b,by have:=run_findKey (P:=P) (w:=w) f g1;exact this,by simpa using t,by simpa using g3,g4⟩
 | false =>
   cases kd<;>simp only[lY.flat,reduceCtorEq]at hfl;obtain⟨y,f,g,s⟩:=We c;cases k<;>simp only[bS,apj]at l;have i:=XL f g s l m w n h;have o:(Instr.findKey a u rs).run P w=(Instr.findAsking a u rs 0).run P w:=by
    simp only[Instr.findKey,ao7,run_underlying f,ao9];cases rs with
    |nil=>simp[Instr.findNow,Instr.findAsking]
    |cons e rs=>simp[Instr.findNow,Instr.sameNow]
   grind
theorem afe{t a c:TypeId}(b:Rel w0 S0 E L w)(d:P.underlying t=some (.map a c)):dz P w0 S0 E (L++[.map [] 0]) (.lmap L.length) w (Instr.makeMap t none):=by have:=b.push (.map #[] 0) (.map [] 0) ⟨w.heap.size,0,0⟩ rfl rfl ⟨⟨w.heap.size,0,0⟩,#[],asp,asp,rfl⟩;refine⟨_,.map (some w.heap.size),_,?_,this.1,?_,this.2⟩;rfl;simp only[VR];simp
theorem acJ{t:TypeId}{a:AV}(h:ah3 P t=some a):∃v,(∀w,(zeroValue t).run P w=.ok v w)/\VR E a v:=by unfold ah3 at h;simp only[aqC]at h;obtain⟨v,⟨i,d,c⟩,b⟩:=h;exact⟨v,λw=>by simp[zeroValue,typeInfo,d,c],Zl b⟩
theorem Yu(d:Rel w0 S0 E L w){i:Nat}{es:List (AV×AV×Nat)}{ck:Nat}{u:Value}(b:L[i]?=some (.map es ck))(a:VR E (.lmap i) u):
  ∃c rs,E.loc i=some c/\u=.map (some c.blk)/\w.heap[c.blk]?=some (.map rs ck)/\aI E es rs.toList:=by
 simp only[VR]at a;obtain⟨c',rs,g,f,e⟩:=d.blk i _ b;simp_all
theorem aff{t b g:TypeId}{kd:lY}{z k:AV}{u v:Value}(ok:Bool)(n:Rel w0 S0 E L w)(m:P.underlying t=some (.map b g))(a:ia P b=some kd)(o:ah3 P g=some z)(h:VR E .nilmap u)(i:bS kd k=true)(f:VR E k v):
  dz P w0 S0 E L (if ok then .tup [z,.bool false]else z) w (Instr.lookup t u v ok):=by
 simp only[VR]at h;subst h;obtain⟨d,l,h4⟩:=acJ (E:=E) o;have j:∀e,(Instr.checkKey e 10000 b v).run P w=.ok () w:=λe=>m8 a i f e
 have c:(Instr.findKey b v []).run P w=.ok none w:=Ei (E:=E) (es:=[]) (r:=none) a i f (by simp[aI]) (by simp[dG]) w;refine .same n (v:=if ok then .tuple #[d,.bool false]else d) ?_ ?_
 .simp[Instr.lookup,run_underlying m,j,c,l]
  try (cases ok<;>rfl)
 cases ok;simp[*];simp only[if_true,VR];exact⟨[d,.bool false],rfl,by simp[VRL,VR,h4]⟩
theorem ahq{t h A:TypeId}{kd:lY}{z k av:AV}{u v:Value}{i ck:Nat}{es:List (AV×AV×Nat)}{r:Option (Nat×AV)}(ok:Bool)(l:Rel w0 S0 E L w)(s:P.underlying t=some (.map h A))(g:ia P h=some kd)(H:ah3 P A=some z)(F:L[i]?=some (.map es ck))(J:VR E (.lmap i) u)(B:bS kd k=true)(o:VR E k v)(D:dG k es 0=some r)(f:av=match r with|some (_,x)=>if ok then .tup [x,.bool true]else x|none=>if ok then .tup [z,.bool false]else z):
  dz P w0 S0 E L av w (Instr.lookup t u v ok):=by
 obtain⟨c,rs,K,rfl,G,m⟩:=Yu l F J;obtain⟨n,I,h4⟩:=acJ (E:=E) H;have d:∀e,(Instr.checkKey e 10000 h v).run P w=.ok () w:=λe=>m8 g B o e
 have C:(getObj c.blk).run P w=.ok (.map rs ck) w:=by simp[getObj,Sem.run,G]
 have y:=Ei g B o m D w;cases r with
 | none =>
   subst f;have a:(Instr.findKey h v rs.toList).run P w=.ok none w:=y;refine .same l (v:=if ok then .tuple #[n,.bool false]else n) ?_ ?_
   .simp[Instr.lookup,run_underlying s,C,d,a,I]
    try (cases ok<;>rfl)
   .cases ok
    .simp[*]
    .simp only[if_true,VR];exact⟨[n,.bool false],rfl,by simp[VRL,VR,h4]⟩
 | some p =>
   obtain⟨j,x⟩:=p;subst f;obtain⟨e,q,b,a,M,g3,g4,_⟩:=y;refine .same l (v:=if ok then .tuple #[e.val,.bool true]else e.val) ?_ ?_
   .simp[Instr.lookup,run_underlying s,C,d,a]
    try (cases ok<;>rfl)
   .cases ok
    .simp[*]
    .simp only[if_true,VR];exact⟨[e.val,.bool true],rfl,by simp[VRL,VR,g4]⟩
theorem aI.app{es:List (AV×AV×Nat)}{k x:AV}{e:MapEntry}:∀{rs:List MapEntry},aI E es rs->VR E k e.key->VR E x e.val->aI E (es++[(k,x,e.born)]) (rs++[e]):=by
 induction es with
 |nil=>intro rs h a c;simp only[aI]at h;subst h;exact⟨e,[],rfl,a,c,rfl,rfl⟩
 | cons p es ih =>
   intro rs h a c;obtain⟨q,y,b⟩:=p;obtain⟨f,t,rfl,g1,d,g3,g4⟩:=h;exact⟨f,t++[e],rfl,g1,d,g3,ih g4 a c⟩
theorem aI.put{k x:AV}{u v:Value}(a:VR E k u)(c:VR E x v):∀{es:List (AV×AV×Nat)}{rs:List MapEntry}{j:Nat},aI E es rs->aI E (ai9 k x es j) (rs.modify j λe=>{e with key:=u,val:=v})
 |[],rs,j,h=>by simp only[aI]at h;subst h;simp[ai9,aI]
 |(q,y,b)::es,rs,0,h=>by obtain⟨f,t,rfl,g1,d,g3,g4⟩:=h;exact⟨{f with key:=u,val:=v},t,rfl,a,c,g3,g4⟩
 |(q,y,b)::es,rs,j+1,h=>by obtain⟨f,t,rfl,g1,d,g3,g4⟩:=h;exact⟨f,t.modify j λe=>{e with key:=u,val:=v},asp,g1,d,g3,aI.put a c (j:=j) g4⟩
theorem ahp{t C S:TypeId}{kd:lY}{k x:AV}{u v y:Value}{i ck:Nat}{es:List (AV×AV×Nat)}{r:Option (Nat×AV)}(O:Rel w0 S0 E L w)(J:P.underlying t=some (.map C S))(B:ia P C=some kd)(I:L[i]?=some (.map es ck))(V:VR E (.lmap i) u)(H:bS kd k=true)(l:VR E k v)(N:VR E x y)(R:dG k es 0=some r):∃w',(Instr.mapUpdate t u v y).run P w=.ok () w'/\Rel w0 S0 E (L.set i (match r with|some (j,_)=>.map (ai9 k x es j) ck|none=>.map (es++[(k,x,ck)]) (ck+1))) w':=by
 obtain⟨c,rs,M,rfl,n,h⟩:=Yu O I V;have s:∀e,(Instr.checkKey e 10000 C v).run P w=.ok () w:=λe=>m8 B H l e
 have Q:(getObj c.blk).run P w=.ok (.map rs ck) w:=by simp[getObj,Sem.run,n]
 have K:=Ei B H l h R w;have F:c.blk<w.heap.size:=(apP.1 n).1;have m:∀o,(setObj c.blk o).run P w=.ok () {w with heap:=w.heap.setIfInBounds c.blk o}:=λo=>by simp[setObj,Sem.run,n]
 have turn:∀a d f,aI E f (a:Array MapEntry).toList->Rel w0 S0 E (L.set i (.map f d)) {w with heap:=w.heap.setIfInBounds c.blk (.map a d)}:=λa d f G =>
  O.turn (w':={w with heap:=w.heap.setIfInBounds c.blk (.map a d)}) (k':=.map f d) I rfl M asp (λb n=>by simp[art,Ne.symm n]) rfl rfl rfl
   ⟨c,a,M,by simp[F],G⟩ (λ_ _ e=>by cases e)
 cases r with
 | none =>
   have g:(Instr.findKey C v rs.toList).run P w=.ok none w:=K;refine⟨_,?_,turn (rs.push {key:=v,val:=y,born:=ck}) (ck+1) _ (by simpa using aI.app (e:={key:=v,val:=y,born:=ck}) h l N)⟩;simp[Instr.mapUpdate,run_underlying J,Q,s,g,m]
 | some p =>
   obtain⟨j,z⟩:=p;obtain⟨e,q,b,g,U,g3,g4,W,T⟩:=K;have D:(Instr.keyThatStays e.key v).run P w=.ok v w:=by simp[Instr.keyThatStays,ahg H l W T]
   have A:rs[j]?=some e:=(by simpa using U);refine⟨_,?_,turn (rs.modify j λe=>{e with key:=v,val:=y}) ck _ (by simpa using aI.put l N (j:=j) h)⟩;simp[Instr.mapUpdate,run_underlying J,Q,s,g,A,D,m]
end
open Go Go.MapKept
section
variable {P:Program}{w0:World}{S0:SB}{E:Env}{L:List Blk}{w:World}{T:Tm}{a:Act}
theorem aI.filt{p:Nat->Bool}:∀{es:List (AV×AV×Nat)}{rs:List MapEntry},aI E es rs->aI E (es.filter λe=>p e.2.2) (rs.filter λe=>p e.born)
 |[],rs,h=>by simp only[aI]at h;subst h;rfl
 | (k,x,b)::es,rs,h=>by
   obtain⟨f,t,rfl,g1,c,g3,g4⟩:=h;have a:=aI.filt (p:=p) g4;subst g3;simp only[List.filter_cons];split
   .exact⟨f,_,rfl,g1,c,rfl,a⟩
   omega
theorem aI.all{p:Nat->Bool}:∀{es:List (AV×AV×Nat)}{rs:List MapEntry},aI E es rs->(rs.all λe=>p e.born)=es.all λe=>p e.2.2
 |[],rs,h=>by simp only[aI]at h;subst h;rfl
 |(k,x,b)::es,rs,h=>by obtain⟨f,t,rfl,g1,a,g3,g4⟩:=h;subst g3;simp only[aqd,aI.all (p:=p) g4]
theorem aI.nil_iff{es:List (AV×AV×Nat)}{rs:List MapEntry}(h:aI E es rs):rs.isEmpty=es.isEmpty:=by
 cases es with
 |nil=>simp only[aI]at h;subst h;rfl
 |cons p es=>obtain⟨k,x,b⟩:=p;obtain⟨f,t,rfl,_⟩:=h;rfl
theorem aI.len:∀{es:List (AV×AV×Nat)}{rs:List MapEntry},aI E es rs->rs.length=es.length
 |[],rs,h=>by simp only[aI]at h;subst h;rfl
 |(k,x,b)::es,rs,h=>by obtain⟨f,t,rfl,_,_,_,g4⟩:=h;simp[aI.len g4]
theorem ace{t b e:TypeId}{v:Value}(d:Rel w0 S0 E L w)(c:P.underlying t=some (.map b e))(a:VR E .nilmap v):
  dz P w0 S0 E (L++[.miter none 0 [] 0]) (.ptr L.length 0) w (Instr.range t v):=by
 simp only[VR]at a;subst a;have:=d.push (.mapIter none 0 #[] 0) (.miter none 0 [] 0) ⟨w.heap.size,0,0⟩ rfl rfl ⟨⟨w.heap.size,0,0⟩,none,asp,asp,rfl,rfl⟩;refine⟨_,.pointer (some ⟨w.heap.size,0,none⟩),_,?_,this.1,?_,this.2⟩;simp[Instr.range,run_underlying c];simp only[VR];exact⟨⟨w.heap.size,0,0⟩,asp,rfl⟩
theorem adK{t k g:TypeId}{v:Value}{i ck:Nat}{es:List (AV×AV×Nat)}(b:Rel w0 S0 E L w)(f:P.underlying t=some (.map k g))(a:L[i]?=some (.map es ck))(d:VR E (.lmap i) v):
  dz P w0 S0 E (L++[.miter (some i) ck [] ck]) (.ptr L.length 0) w (Instr.range t v):=by
 obtain⟨c,rs,j,rfl,h,l⟩:=Yu b a d;have e:i<L.length:=(aoZ.1 a).1;have:=b.push (.mapIter (some c.blk) ck #[] ck) (.miter (some i) ck [] ck) ⟨w.heap.size,0,0⟩ rfl rfl ⟨⟨w.heap.size,0,0⟩,some c.blk,asp,asp,rfl,c,by simp only;rw[if_neg aso];exact j,rfl⟩;refine⟨_,.pointer (some ⟨w.heap.size,0,none⟩),_,?_,this.1,?_,this.2⟩;have m:(getObj c.blk).run P w=.ok (.map rs ck) w:=by simp[getObj,Sem.run,h]
 simp[Instr.range,run_underlying f,m];simp only[VR];exact⟨⟨w.heap.size,0,0⟩,asp,rfl⟩
theorem afd{t:TypeId}{v:Value}{i j ck a last:Nat}{seen:List Nat}{es:List (AV×AV×Nat)}{r:Option (AV×AV×Nat)}(B:Rel w0 S0 E L w)(K:L[i]?=some (.miter (some j) a seen last))(U:L[j]?=some (.map es ck))(Q:VR E (.ptr i 0) v)(y:ai8 es a seen last=some r):
  dz P w0 S0 E (aa9 L i j a seen ck r) (Vx r) w (Instr.next v false t):=by
 obtain⟨c,I,rfl⟩:=Q;obtain⟨c',q,O,G,M,d,h4,rfl⟩:=B.blk i _ K;rw[I]at O;cases O;obtain⟨d',rs,g1,W,g3⟩:=B.blk j _ U;rw[h4]at g1;cases g1;have F:c.blk<w.heap.size:=(apP.1 G).1;have N:(getObj c.blk).run P w=.ok (.mapIter (some d.blk) a ⟨seen⟩ last) w:=by simp[getObj,Sem.run,G]
 have z:(getObj d.blk).run P w=.ok (.map rs ck) w:=by simp[getObj,Sem.run,W]
 have H:∀o,(setObj c.blk o).run P w=.ok () {w with heap:=w.heap.setIfInBounds c.blk o}:=λo=>by simp[setObj,Sem.run,G]
 rw[M];unfold ai8 at y;split at y;simp_all;rename_i A;have g:(!(⟨seen⟩:Array Nat).isEmpty && !rs.isEmpty&&rs.all λe=>decide (e.born≥last))=false:=by
  have Z:rs.isEmpty=es.isEmpty:=(by rw[<- g3.nil_iff];simp);have Y:(rs.all λe=>decide (e.born≥last))=es.all λe=>decide (last<=e.2.2):=by rw[<- aI.all (p:=λb=>decide (last<=b)) g3];simp
  simp[*]
 have u:=aI.filt (p:=λb => !seen.contains b) g3;have m:=aI.filt (p:=λb=>decide (b<a)) u;have n:=aI.filt (p:=λb=>decide (a<=b)) u;have C:∀p:MapEntry->Bool,(rs.filter λe => !(⟨seen⟩:Array Nat).contains e.born).filter p=⟨(rs.toList.filter λe => !seen.contains e.born).filter p⟩:=λp=>by apply Array.toList_inj.1;simp
 split at y;rename_i J D;simp only[ao1]at y;subst y;rw[J]at m;rw[D]at n;refine .same B (v:=.tuple #[.bool false]) ?_ (by simp[Vx,VR,VRL]);have h:((rs.filter λe => !(⟨seen⟩:Array Nat).contains e.born).filter λe=>decide (e.born<a))=#[]:=by rw[C,m]
 have l:((rs.filter λe => !(⟨seen⟩:Array Nat).contains e.born).filter λe=>decide (e.born≥a))=#[]:=by rw[C];exact congrArg Array.mk n
 simp only[Instr.next,ao7,N,z,ao9,g,apj,if_false,h,l];simp[Question.forced];rename_i e J D;simp only[ao1]at y;subst y;rw[J]at m;rw[D]at n;obtain⟨k,x,b⟩:=e;obtain⟨f,s,T,X,R,V,rfl⟩:=m;subst V;have h:((rs.filter λe => !(⟨seen⟩:Array Nat).contains e.born).filter λe=>decide (e.born<a))=#[f]:=by rw[C,T]
 have l:((rs.filter λe => !(⟨seen⟩:Array Nat).contains e.born).filter λe=>decide (e.born≥a))=#[]:=by rw[C];exact congrArg Array.mk n
 have turn:=B.turn (w':={w with heap:=w.heap.setIfInBounds c.blk (.mapIter (some d.blk) a ((⟨seen⟩:Array Nat).push f.born) ck)}) (k':=.miter (some j) a (seen++[f.born]) ck) K rfl I asp (λb S=>by simp[art,Ne.symm S]) rfl rfl rfl
  ⟨c,some d.blk,I,by simp[F],M,d,h4,rfl⟩ (λ_ _ e=>by cases e)
 refine⟨E,.tuple #[.bool true,f.key,f.val],_,?_,.refl E,?_,turn⟩;simp only[Instr.next,ao7,N,z,ao9,g,apj,if_false,h,l];simp[Question.forced,H];exact⟨[.bool true,f.key,f.val],rfl,.bool true,[f.key,f.val],rfl,rfl,f.key,[f.val],rfl,X,f.val,[],rfl,R,rfl⟩;cases y
theorem adL{t:TypeId}{v:Value}{i a last:Nat}{seen:List Nat}(b:Rel w0 S0 E L w)(f:L[i]?=some (.miter none a seen last))(e:VR E (.ptr i 0) v):
  dz P w0 S0 E L (.tup [.bool false]) w (Instr.next v false t):=by
 obtain⟨c,h,rfl⟩:=e;obtain⟨c',q,d,g,j,h4⟩:=b.blk i _ f;rw[h]at d;cases d;simp only[MIt]at h4;subst h4;have k:(getObj c.blk).run P w=.ok (.mapIter none a ⟨seen⟩ last) w:=by simp[getObj,Sem.run,g]
 rw[j];exact .same b (v:=.tuple #[.bool false]) (by simp[Instr.next,k]) (by simp[VR,VRL])
theorem aI.fnd{b:Nat}:∀{es:List (AV×AV×Nat)}{rs:List MapEntry}{e:AV×AV×Nat},aI E es rs->es.find? (λe=>Nat.beq e.2.2 b)=some e->∃f,rs.find? (λe=>e.born == b)=some f/\VR E e.1 f.key/\VR E e.2.1 f.val
 |[],rs,e,h,he=>by simp at he
 | (k,x,c)::es,rs,e,h,he=>by
   obtain⟨f,t,rfl,g1,d,g3,g4⟩:=h;subst g3;simp only[aq0]at he⊢;have a:(f.born == b)=Nat.beq f.born b:=by
    cases hh:Nat.beq f.born b with
    |true=>rw[Nat.eq_of_beq_eq_true hh];simp
    | false =>
      have:f.born≠b:=λe=>by rw[e,Nat.beq_refl]at hh;cases hh
      simp[*]
   rw[a];split at he
   .grind
   .rename_i hb;exact aI.fnd g4 he
theorem adM{v:Value}{i j ck g a:Nat}{seen:List Nat}{es:List (AV×AV×Nat)}{e:AV×AV×Nat}(l:Rel w0 S0 E L w)(z:L[i]?=some (.miter (some j) g seen a))(t:L[j]?=some (.map es ck))(y:VR E (.ptr i 0) v)(k:mat es ck seen a=some e):dz P w0 S0 E L (.tup [e.1,e.2.1]) w (Instr.entry v):=by
 obtain⟨c,s,rfl⟩:=y;obtain⟨c',q,p,A,C,d,h4,rfl⟩:=l.blk i _ z;rw[s]at p;cases p;obtain⟨G,rs,g1,D,g3⟩:=l.blk j _ t;rw[h4]at g1;cases g1;have F:(getObj c.blk).run P w=.ok (.mapIter (some d.blk) g ⟨seen⟩ a) w:=by simp[getObj,Sem.run,A]
 have m:(getObj d.blk).run P w=.ok (.map rs ck) w:=by simp[getObj,Sem.run,D]
 unfold mat at k;split at k;rename_i b o;split at k;rename_i n;obtain⟨f,x,r,u⟩:=aI.fnd g3 k;have h:(⟨seen⟩:Array Nat).back?=some b:=by rw[List.getLast?_eq_getElem?]at o;simpa[Array.back?]using o
 have B:rs.find? (λe=>e.born == b)=some f:=by rw[<- x];simp
 rw[C];refine .same l (v:=.tuple #[f.key,f.val]) ?_ (by simp only[VR,VRL];exact⟨[f.key,f.val],rfl,f.key,[f.val],rfl,r,f.val,[],rfl,u,rfl⟩);simp[Instr.entry,F,m,h,n,B];simp_all;simp_all
theorem aI.del:∀{es:List (AV×AV×Nat)}{rs:List MapEntry}{j:Nat},aI E es rs->aI E (es.eraseIdx j) (rs.eraseIdx j)
 |[],rs,j,h=>by simp only[aI]at h;subst h;simp[aI]
 |(k,x,b)::es,rs,0,h=>by obtain⟨f,t,rfl,_,_,_,g4⟩:=h;simpa using g4
 |(k,x,b)::es,rs,j+1,h=>by obtain⟨f,t,rfl,g1,a,g3,g4⟩:=h;exact⟨f,t.eraseIdx j,asp,g1,a,g3,aI.del g4⟩
theorem ahr{t x M t' ty:TypeId}{kd:lY}{k:AV}{u v:Value}{i ck:Nat}{cs:Array Bool}{es:List (AV×AV×Nat)}{r:Option (Nat×AV)}(I:Rel w0 S0 E L w)(D:P.underlying t=some (.map x M))(s:ia P x=some kd)(C:L[i]?=some (.map es ck))(N:VR E (.lmap i) u)(G:bS kd k=true)(B:VR E k v)(K:dG k es 0=some r):∃w',(builtin .delete ⟨[t,t']⟩ ty cs ⟨[u,v]⟩).run P w=.ok (.value (.tuple #[])) w'/\Rel w0 S0 E (L.set i (match r with|some (j,_)=>.map (es.eraseIdx j) ck|none=>.map es ck)) w':=by
 obtain⟨c,rs,H,rfl,m,h⟩:=Yu I C N;have n:∀e,(Instr.checkKey e 10000 x v).run P w=.ok () w:=λe=>m8 s G B e
 have J:(getObj c.blk).run P w=.ok (.map rs ck) w:=by simp[getObj,Sem.run,m]
 have F:=Ei s G B h K w;have y:c.blk<w.heap.size:=(apP.1 m).1;have l:∀o,(setObj c.blk o).run P w=.ok () {w with heap:=w.heap.setIfInBounds c.blk o}:=λo=>by simp[setObj,Sem.run,m]
 have turn:∀a d f,aI E f (a:Array MapEntry).toList->Rel w0 S0 E (L.set i (.map f d)) {w with heap:=w.heap.setIfInBounds c.blk (.map a d)}:=λa d f A =>
  I.turn (w':={w with heap:=w.heap.setIfInBounds c.blk (.map a d)}) (k':=.map f d) C rfl H asp (λb m=>by simp[art,Ne.symm m]) rfl rfl rfl
   ⟨c,a,H,by simp[y],A⟩ (λ_ _ e=>by cases e)
 cases r with
 | none =>
   have g:(Instr.findKey x v rs.toList).run P w=.ok none w:=F;refine⟨_,?_,turn rs ck es h⟩;simp[builtin,Builtin.delete_,run_underlying D,J,n,g,l]
 | some p =>
   obtain⟨j,z⟩:=p;obtain⟨e,q,b,g,Q,g3,g4,R,O⟩:=F;refine⟨_,?_,turn (rs.eraseIdxIfInBounds j) ck (es.eraseIdx j) (by simpa using aI.del h)⟩;simp[builtin,Builtin.delete_,run_underlying D,J,n,g,l]
theorem afg{t a i t' ty:TypeId}{kd:lY}{k:AV}{u v:Value}{cs:Array Bool}(j:Rel w0 S0 E L w)(h:P.underlying t=some (.map a i))(c:ia P a=some kd)(d:VR E .nilmap u)(g:bS kd k=true)(f:VR E k v):
  (builtin .delete ⟨[t,t']⟩ ty cs ⟨[u,v]⟩).run P w=.ok (.value (.tuple #[])) w:=by
 simp only[VR]at d;subst d;have b:∀e,(Instr.checkKey e 10000 a v).run P w=.ok () w:=λe=>m8 c g f e
 simp[builtin,Builtin.delete_,run_underlying h,b]
theorem akW{own:Nat}{ts:List TypeId}{xs:List Operand}{u:List Opd}{ty:TypeId}{cs:Array Bool}{z:LOp}{c:Prop}{av:AV}{L':List Blk}(n:Rel w0 S0 E L w)(f:TR E T a)(C:oV xs=some u)(d:dH P own .delete ts u=some z)(b:au T L z=some (c,av,L')):fj P w0 S0 E L' av w (builtin .delete ⟨ts⟩ ty cs ⟨xs.map a.eval⟩):=by
 unfold dH at d;split at d<;>try (rename_i D;cases D)
 rename_i t t' m k _;obtain⟨x,y,rfl,s,p⟩:=aeb C;split at d<;>try cases d
 rename_i F G q;rcases h4:ia P F with _|kd<;>simp[h4]at d;subst d;simp only[au]at b;split at b<;>try cases b
 rename_i A l g;split at b<;>cases b;rename_i h;exact .same n (v:=.tuple #[]) (afg n q h4 (aq s l f) h (aq p g f)) (by simp[VR,VRL]);rename_i i A l g;split at b<;>try cases b
 rename_i es ck B;split at b<;>try cases b
 rename_i h;have go:=λr e=>ahr (P:=P) (t':=t') (ty:=ty) (cs:=cs) (r:=r) n q h4 B (aq s l f) h (aq p g f) e
 split at b<;>cases b;rename_i j H e;obtain⟨w',g1,o⟩:=go _ e;exact⟨E,.tuple #[],w',.inl g1,.refl E,by simp[VR,VRL],o⟩;rename_i e;obtain⟨w',g1,o⟩:=go _ e;exact⟨E,.tuple #[],w',.inl g1,.refl E,by simp[VR,VRL],o⟩;simp_all
end
section
variable {P:Program}{w0:World}{S0:SB}{E:Env}{L:List Blk}{w:World}{T:Tm}{a:Act}
def LOp.isCall:LOp->Bool
 |.call _ _|.callv _ _=>true
 |_=>false
set_option maxHeartbeats 1000000 in
theorem acp{own:Nat}{o:Oper}{lo:LOp}{c:Prop}{av:AV}{L':List Blk}(hR:Rel w0 S0 E L w)(hT:TR E T a)(hl:ki P own o.op=some lo)(hnc:lo.isCall=false)(he:au T L lo=some (c,av,L'))(hc:c):
  fj P w0 S0 E L' av w (execOp a.eval o):=by
 obtain⟨dst,op,ty,pos,after,guard⟩:=o;cases op<;>simp only[ki]at hl<;>try cases hl
 case move x =>
  show fj P w0 S0 E L' av w (pure (.value (a.eval x)));rcases h1:bV x with _|y<;>simp[h1]at hl;subst hl;simp only[au]at he;rcases h2:evX T y with _|u<;>simp only[h2,apI,apl,reduceCtorEq,ao1,apf]at he;obtain⟨rfl,rfl,rfl⟩:=he;exact .same hR rfl (aq h1 h2 hT)
 case assign x =>
  show fj P w0 S0 E L' av w (pure (.value (a.eval x)));rcases h1:bV x with _|y<;>simp[h1]at hl;subst hl;simp only[au]at he;rcases h2:evX T y with _|u<;>simp only[h2,apI,apl,reduceCtorEq,ao1,apf]at he;obtain⟨rfl,rfl,rfl⟩:=he;exact .same hR rfl (aq h1 h2 hT)
 case pick x y z =>
  show fj P w0 S0 E L' av w (do pure (.value (if <- asBool (a.eval x)then a.eval y else a.eval z)));split at hl<;>try cases hl
  rename_i x' y' z' h1 h2 h3;simp only[au]at he;split at he<;>try cases he
  all_goals
   rename_i h4;have hx:=aq h1 h4 hT;simp only[VR]at hx
  .rcases h5:evX T y' with _|u<;>simp only[h5,apI,apl,reduceCtorEq,ao1,apf]at he;obtain⟨rfl,rfl,rfl⟩:=he;exact .same hR (by simp[hx,asBool]) (aq h2 h5 hT)
  .rcases h5:evX T z' with _|u<;>simp only[h5,apI,apl,reduceCtorEq,ao1,apf]at he;obtain⟨rfl,rfl,rfl⟩:=he;exact .same hR (by simp[hx,asBool]) (aq h3 h5 hT)
 case alloc t =>
  show fj P w0 S0 E L' av w (do pure (.value (<- Instr.alloc t true (.tuple #[]))));rcases h1:zOf P t with _|z<;>simp[h1]at hl;subst hl;simp only[au,ao1,apf]at he;obtain⟨rfl,rfl,rfl⟩:=he;exact(afj hR h1).done
 case box t x =>
  show fj P w0 S0 E L' av w (do pure (.value (<- Instr.box t (a.eval x))));rcases h1:bV x with _|y<;>simp[h1]at hl;subst hl;simp only[au]at he;rcases h2:evX T y with _|u
  .simp[h2]at he
  .simp only[h2,aqf]at he;rcases h3:u.cells? with _|l<;>simp only[h3,reduceCtorEq,ao1,apf]at he;obtain⟨rfl,rfl,rfl⟩:=he;exact(XH hR (rK h3 (aq h1 h2 hT))).done
 case build t ps =>
  show fj P w0 S0 E L' av w (do pure (.value (<- Instr.build t (ps.map λ(i,x)=>(i,a.eval x)))));have hps:(ps.map λ(i,x)=>(i,a.eval x))=⟨ps.toList.map λ(i,x)=>(i,a.eval x)⟩:=(by apply Array.ext';simp);rw[hps];split at hl<;>try cases hl
  rename_i d z hd hz;split at hl<;>try cases hl
  .rename_i fs;split at hl<;>try cases hl
   rename_i hk;rcases hm:iC P (.struct fs) ps.toList with _|m<;>simp only[hm,apI,apl,reduceCtorEq,ao1]at hl;subst hl;simp only[au]at he;rcases hf:lM T z m with _|l<;>simp only[hf,apI,apl,reduceCtorEq,ao1,apf]at he;obtain⟨rfl,rfl,rfl⟩:=he;exact(adN hT hR hd hz hk hm hf).done
  .rename_i n e;split at hl<;>try cases hl
   rename_i hs;rcases hm:iC P (.array n e) ps.toList with _|m<;>simp only[hm,apI,apl,reduceCtorEq,ao1]at hl;subst hl;simp only[au]at he;rcases hf:lM T z m with _|l<;>simp only[hf,apI,apl,reduceCtorEq,ao1,apf]at he;obtain⟨rfl,rfl,rfl⟩:=he;exact(adO hT hR hd hz hm hs hf).done
 case buildSlice t n ps =>
  show fj P w0 S0 E L' av w (do pure (.value (<- Instr.buildSlice t n (ps.map λ(i,x)=>(i,a.eval x)))));have hps:(ps.map λ(i,x)=>(i,a.eval x))=⟨ps.toList.map λ(i,x)=>(i,a.eval x)⟩:=(by apply Array.ext';simp);rw[hps];split at hl<;>try cases hl
  rename_i e hd;split at hl<;>try cases hl
  rename_i s z m hs hz hm;split at hl<;>try cases hl
  rename_i hk;simp only[au]at he;rcases hf:lM T (gu z n) m with _|l<;>simp only[hf,reduceCtorEq]at he;have:=adP (own:=own == 2) hT hR hd hs hz hk.1 hk.2 hm hf;split at he<;>simp only[ao1,apf]at he<;>obtain⟨rfl,rfl,rfl⟩:=he
  .rename_i ho;rw[if_pos ho]at this;exact this.done
  .rename_i ho;rw[if_neg ho]at this;exact this.done
 case load t x =>
  split at hl<;>try cases hl
  rename_i g s y h1 h2 h3;exact aiw hR hT h1 h2 h3 he hc
 case store t x y =>
  split at hl<;>try cases hl
  rename_i s p q h1 h2 h3;exact agK hR hT h1 h2 h3 he hc
 case nilCheck x =>
  rcases h1:bV x with _|y<;>simp[h1]at hl;subst hl;simp only[au]at he;split at he<;>try cases he
  all_goals
   rename_i h2;have hx:=kj hR h1 h2 hT
  .have hx':=hx;obtain⟨p,hp⟩:=hx'.ptr_shape;exact .same hR (by simp[execOp,hp]) hx
  .have hx':=hx;obtain⟨p,hp⟩:=hx'.iptr_shape;exact .same hR (by simp[execOp,hp]) hx
  .have hx':=hx;obtain⟨p,hp⟩:=hx'.iface_shape;exact .same hR (by simp[execOp,hp]) hx
  .have hx':=hx;obtain⟨p,hp⟩:=hx'.func_shape;exact .same hR (by simp[execOp,hp]) hx
 case binOp op t x y u=>exact akY (u:=u) hR hT hl he hc
 case unOp op t x =>
  show fj P w0 S0 E L' av w (do pure (.value (<- Op.unary op (a.eval x))));rcases h1:bV x with _|y<;>simp[h1]at hl;subst hl;simp only[au]at he;split at he<;>try cases he
  rename_i u h2;rcases h3:un op u with _|r<;>simp only[h3,apI,apl,reduceCtorEq,ao1,apf]at he;obtain⟨rfl,rfl,rfl⟩:=he;exact(alD hR (aq h1 h2 hT) h3).done
 case convert s d x =>
  rcases h1:bV x with _|y
  .simp[h1]at hl
  .simp only[h1,aqf]at hl;exact aix hR hT h1 hl he hc
 case makeInterface t x =>
  show fj P w0 S0 E L' av w (do pure (.value (<- Instr.makeInterface t (a.eval x))));split at hl<;>try cases hl
  rename_i d hni hd;rcases h1:bV x with _|y<;>simp only[h1,apI,apl,reduceCtorEq,ao1]at hl;subst hl;simp only[au]at he;rcases h2:evX T y with _|u<;>simp only[h2,apI,apl,reduceCtorEq,ao1,apf]at he;obtain⟨rfl,rfl,rfl⟩:=he;refine .same hR (v:=.iface t (a.eval x)) ?_ ⟨_,rfl,aq h1 h2 hT⟩;simp only[Instr.makeInterface,ao7,run_underlying hd,ao9];cases d<;>first|rfl|exact absurd hd (hni _)
 case makeFunc fn first caps =>
  show fj P w0 S0 E L' av w (do pure (.value (<- Instr.makeFunc fn (first.map a.eval) (caps.map a.eval))));split at hl<;>try cases hl
  rename_i f;split at hl<;>try cases hl
  rename_i hfirst;rcases h1:oV caps.toList with _|ys<;>simp only[h1,apI,apl,reduceCtorEq,ao1]at hl;subst hl;simp only[au]at he;rcases h2:jc T ys with _|l<;>simp only[h2,apI,apl,reduceCtorEq,ao1,apf]at he;obtain⟨rfl,rfl,rfl⟩:=he;have hf:first=#[]:=by simpa using hfirst
  subst hf;refine .same hR (v:=.func (.func f) #[] (caps.map a.eval)) (by simp[Instr.makeFunc]) ⟨caps.toList.map a.eval,?_,tC h1 h2 hT⟩;congr 1;apply Array.ext';simp
 case makeSlice t l c' =>
  show fj P w0 S0 E L' av w (do pure (.value (<- Instr.makeSlice t (a.eval l) (a.eval c'))));split at hl<;>try cases hl
  rename_i e hd;split at hl<;>try cases hl
  rename_i s b z l' c'' hs hb hz h1 h2;split at hl<;>try cases hl
  rename_i hk;simp only[au]at he;split at he<;>try cases he
  rename_i k1 n k2 m h3 h4;have e1:=aq h1 h3 hT;have e2:=aq h2 h4 hT;simp only[VR]at e1 e2;rw[e1,e2];exact(acf hR hd hs hb hz hk.1 hc.1 hc.2.1 hc.2.2.1 hc.2.2.2).done
 case slice t x lo' hi mx =>
  split at hl<;>try cases hl
  .rename_i x' lo'' hi' hd h1 h2 h3 h4;have hmx:mx=none:=by
    cases mx with
    |none=>rfl
    |some m=>simp[wi]at h4
   subst hmx;show fj P w0 S0 E L' av w (do pure (.value (<- Instr.sliceAt t (a.eval x) (lo'.map a.eval) (hi.map a.eval) none)));simp only[au]at he;split at he<;>try cases he
   rename_i s r1 r2 h5 h6 h7;exact(ajD hR hd (aq h1 h5 hT) (eE hT h2 h6) (eE hT h3 h7) hc.1 hc.2.1 hc.2.2).done
  .rename_i e x' lo'' hi' mx' hd h1 h2 h3 h4;rcases hs:dr P e with _|s<;>simp only[hs,apI,apl,reduceCtorEq,ao1]at hl;subst hl;exact akT hR hT hd hs h1 h2 h3 h4 he hc
  .rename_i n e x' lo'' hi' hd h1 h2 h3 h4;rcases hs:dr P e with _|s<;>simp only[hs,apI,apl,reduceCtorEq,ao1]at hl;subst hl;have hmx:mx=none:=by
    cases mx with
    |none=>rfl
    |some m=>simp[wi]at h4
   subst hmx;exact akU hR hT hd hs h1 h2 h3 he hc
 case fieldAddr t x f =>
  split at hl<;>try cases hl
  rename_i fs x' hd h1;split at hl<;>try cases hl
  rename_i fd hf;split at hl<;>try cases hl
  rename_i hz;exact agN hR hT hd hf hz h1 he
 case field t x f =>
  split at hl<;>try cases hl
  rename_i fs x' hd h1;split at hl<;>try cases hl
  rename_i fd hf;split at hl<;>try cases hl
  rename_i g s hg hs;exact agM hR hT hd hf hg hs h1 he hc
 case indexAddr t x i =>
  split at hl<;>try cases hl
  .rename_i e x' i' hd h1 h2;rcases hs:dr P e with _|s<;>simp only[hs,apI,apl,reduceCtorEq,ao1]at hl;subst hl;exact agL hR hT hd hs h1 h2 he hc
  .rename_i n e x' i' hd h1 h2;rcases hs:dr P e with _|s<;>simp only[hs,apI,apl,reduceCtorEq,ao1]at hl;subst hl;exact aeB hR hT hd hs h1 h2 he hc
 case index t x i =>
  show fj P w0 S0 E L' av w (do pure (.value (<- Instr.index t (a.eval x) (a.eval i))));split at hl<;>try cases hl
  rename_i x' i' hd h1 h2;simp only[au]at he;split at he<;>try cases he
  rename_i s k n h3 h4;have e2:=aq h2 h4 hT;simp only[VR]at e2;rw[e2];exact(ahs hR hd (aq h1 h3 hT) hc.1 hc.2).done
 case extract x i =>
  show fj P w0 S0 E L' av w (do pure (.value (<- Instr.extract (a.eval x) i)));rcases h1:bV x with _|y<;>simp[h1]at hl;subst hl;simp only[au]at he;split at he<;>try cases he
  rename_i l h2;rcases h3:l[i]? with _|u<;>simp only[h3,apI,apl,reduceCtorEq,ao1,apf]at he;obtain⟨rfl,rfl,rfl⟩:=he;exact(acg hR (aq h1 h2 hT) h3).done
 case makeMap t r =>
  show fj P w0 S0 E L' av w (do pure (.value (<- Instr.makeMap t (r.map a.eval))));cases r with
  |some x=>simp at hl
  | none =>
    simp only at hl;split at hl<;>try cases hl
    rename_i kt et hd;simp only[au,ao1,apf]at he;obtain⟨rfl,rfl,rfl⟩:=he;exact(afe hR hd).done
 case lookup t m k ok =>
  show fj P w0 S0 E L' av w (do pure (.value (<- Instr.lookup t (a.eval m) (a.eval k) ok)));split at hl<;>try cases hl
  rename_i kt et m' k' hd h1 h2;split at hl<;>try cases hl
  rename_i kd z h3 h4;simp only[au]at he;split at he<;>try cases he
  .rename_i kv h5 h6;split at he<;>cases he;rename_i hf;exact(aff ok hR hd h3 h4 (aq h1 h5 hT) hf (aq h2 h6 hT)).done
  .rename_i i kv h5 h6;split at he<;>try cases he
   rename_i es ck h7;split at he<;>try cases he
   rename_i hf;have go:=λr av hm hav=>(ahq (P:=P) (r:=r) (av:=av) ok hR hd h3 h4 h7 (aq h1 h5 hT) hf (aq h2 h6 hT) hm hav).done
   split at he<;>cases he
   .rename_i j v hm;exact go _ _ hm rfl
   .rename_i hm;exact go _ _ hm rfl
 case mapUpdate t m k v =>
  show fj P w0 S0 E L' av w (do Instr.mapUpdate t (a.eval m) (a.eval k) (a.eval v);pure .skip);split at hl<;>try cases hl
  rename_i kt et m' k' v' hd h1 h2 h3;rcases h4:ia P kt with _|kd<;>simp[h4]at hl;subst hl;simp only[au]at he;split at he<;>try cases he
  rename_i i kv x h5 h6 h7;split at he<;>try cases he
  rename_i es ck h8;split at he<;>try cases he
  rename_i hf;have go:=λr hm=>ahp (P:=P) (r:=r) hR hd h4 h8 (aq h1 h5 hT) hf (aq h2 h6 hT) (aq h3 h7 hT) hm
  split at he<;>cases he
  .rename_i j y hm;obtain⟨w',g1,g2⟩:=go _ hm;exact⟨E,undef,w',.inr ⟨by simp[g1],rfl⟩,.refl E,by simp[VR],g2⟩
  .rename_i hm;obtain⟨w',g1,g2⟩:=go _ hm;exact⟨E,undef,w',.inr ⟨by simp[g1],rfl⟩,.refl E,by simp[VR],g2⟩
 case range t x =>
  show fj P w0 S0 E L' av w (do pure (.value (<- Instr.range t (a.eval x))));split at hl<;>try cases hl
  .rename_i hd;rcases h1:bV x with _|y<;>simp[h1]at hl;subst hl;simp only[au]at he;split at he<;>try cases he
   rename_i s h2;exact(adJ hR hd (aq h1 h2 hT)).done
  .rename_i kt et hd;rcases h1:bV x with _|y<;>simp[h1]at hl;subst hl;simp only[au]at he;split at he<;>try cases he
   .rename_i h2;exact(ace hR hd (aq h1 h2 hT)).done
   .rename_i i h2;split at he<;>cases he;rename_i es ck h3;exact(adK hR hd h3 (aq h1 h2 hT)).done
 case entry x =>
  show fj P w0 S0 E L' av w (do pure (.value (<- Instr.entry (a.eval x))));rcases h1:bV x with _|y<;>simp[h1]at hl;subst hl;simp only[au]at he;split at he<;>try cases he
  rename_i i h2;split at he<;>try cases he
  rename_i j since seen st h3;split at he<;>try cases he
  rename_i es ck h4;split at he<;>cases he;rename_i e h5;exact(adM hR h3 h4 (aq h1 h2 hT) h5).done
 case next x isS =>
  show fj P w0 S0 E L' av w (do pure (.value (<- Instr.next (a.eval x) isS ty)));by_cases hS:isS=true
  case neg =>
   rw[if_neg hS]at hl;have hS':isS=false:=(by simpa using hS);subst hS';rcases h1:bV x with _|y<;>simp[h1]at hl;subst hl;simp only[au]at he;split at he<;>try cases he
   rename_i i h2;split at he<;>try cases he
   .rename_i h3;exact(adL hR h3 (aq h1 h2 hT)).done
   .rename_i j since seen last h3;split at he<;>try cases he
    rename_i es ck h4;split at he<;>cases he;rename_i r h5;exact(afd hR h3 h4 (aq h1 h2 hT) h5).done
  rw[if_pos hS]at hl;subst hS;rcases h1:bV x with _|y<;>simp[h1]at hl;subst hl;simp only[au]at he;split at he<;>try cases he
  rename_i i h2;split at he<;>try cases he
  rename_i s p h3;have key:=afc (P:=P) (t:=ty) hR h3 (aq h1 h2 hT);split at he<;>cases he
  .rename_i hp;rw[if_pos hp,if_pos hp]at key;exact key.done
  .rename_i hp;rw[if_neg hp,if_neg hp]at key;exact key.done
 case call c' =>
  obtain⟨callee,args,ats⟩:=c';split at hl<;>try cases hl
  rename_i xs hx;split at hl<;>try cases hl
  .simp[LOp.isCall]at hnc
  .rename_i x _ _;rcases h1:bV x with _|y<;>simp only[h1,apI,apl,reduceCtorEq,ao1]at hl;subst hl;simp[LOp.isCall]at hnc
  .rename_i b hb;simp only at hb hx hl;subst hb;have:execOp a.eval {dst,op:=.call {callee:=.builtin b,args,argTypes:=ats},type:=ty,pos,after,guard}=builtin b ⟨ats.toList⟩ ty (args.map λ|.const _=>true|_=>false) ⟨args.toList.map a.eval⟩:=by simp only[execOp,resolve,pure_bind,invoke];congr 1;apply Array.ext';simp
   rw[this];exact acT hR hT hx hl he hc λe=>by subst e;exact akW hR hT hx hl he
end
structure aw where
 dst:Option Nat
 op:LOp
 guard:Option (Nat×Bool)
 deriving Inhabited
def di(dst:Option Nat)(v:AV)(T:Tm):Tm :=
 match dst with
 |some d=>(d,v)::T
 |none=>T
def gT(r:Option Nat):Fence:={fn:=λ_=>True,depth:=none,alive:=false,round:=r}
theorem ZR{P:Program}{args:Array Value}{w:World}{R:Ending->World->Prop}(r:Option Nat)(n:Nat)(h:Calls P f args w R):CallsIn (gT r) n P f args w R:=by have a:CallsIn Fence.wide n P f args w R:=callsIn_wide.2 h;cases r<;>exact a
theorem ac1{P:Program}{n l:Nat}{tmps:Array Value}{ca cb:Code}{w:World}{R:Ending->World->Prop}(r:Option Nat)(h:RoundIn (gT none) n P l f tmps ca cb w R):RoundIn (gT r) n P l f tmps ca cb w R:=by cases r<;>exact h
def aaO(P:Program)(i:Nat)(args:List AV)(L:List Blk)(Q:AV->List Blk->Prop):Prop :=
 ∀(w0:World) (S0:SB) (E:Env) (w:World) (vs:List Value),Rel w0 S0 E L w->VRL E args vs->∀c,E.loc i=some c ->
  ∃fn tmps ca cb,(Instr.yield c.blk ⟨vs⟩).run P w=.ok (.round c.blk fn tmps ca cb) w/\RoundIn (gT none) 0 P c.blk fn tmps ca cb w λe w'=>∃E' v av L',e=.returned v/\E.le E'/\Q av L'/\VR E' av v/\Rel w0 S0 E' L' w'
theorem aaO.mono{P:Program}{L:List Blk}{Q f:AV->List Blk->Prop}(h:aaO P i args L Q)(g:∀av L',Q av L'->f av L'):aaO P i args L f:=by intro w0 S0 E w vs l k c j;obtain⟨fn,tmps,ca,cb,n,m⟩:=h w0 S0 E w vs l k c j;exact⟨fn,tmps,ca,cb,n,m.mono λe w' ⟨E',v,av,L',a,b,c,d⟩=>⟨E',v,av,L',a,b,g _ _ c,d⟩⟩
def af(P:Program)(f:FuncId)(args:List AV)(L:List Blk)(Q:AV->List Blk->Prop):Prop :=
 ∀(w0:World) (S0:SB) (E:Env) (w:World) (vs:List Value),Rel w0 S0 E L w->VRL E args vs ->
  ((callFunc f ⟨vs⟩).run P w=.ok (.enter f ⟨vs⟩) w/\Calls P f ⟨vs⟩ w λe w'=>∃E' v av L',e=.returned v/\E.le E'/\Q av L'/\VR E' av v/\Rel w0 S0 E' L' w') \/
  (∃E' v av L' w',(callFunc f ⟨vs⟩).run P w=.ok (.value v) w'/\E.le E'/\Q av L'/\VR E' av v/\Rel w0 S0 E' L' w')
theorem af.mono{P:Program}{L:List Blk}{Q g:AV->List Blk->Prop}(h:af P f args L Q)(k:∀av L',Q av L'->g av L'):af P f args L g:=by
 intro w0 S0 E w vs m l;rcases h w0 S0 E w vs m l with⟨j,i⟩|⟨E',v,av,L',w',j,i,n,h4⟩;exact .inl ⟨j,i.mono λe w' ⟨E',v,av,L',a,b,c,d⟩=>⟨E',v,av,L',a,b,k _ _ c,d⟩⟩
 grind
def Res(K:Tm->List Blk->Prop)(d:Option Nat)(T:Tm):Option (Prop×AV×List Blk)->Prop
 |some (c,av,L')=>c/\K (di d av T) L'
 |none=>False
theorem akl{T:Tm}{c:Prop}{av:AV}{L':List Blk}:Res K d T (some (c,av,L'))=(c/\K (di d av T) L'):=rfl
def Kon(K:Tm->List Blk->Prop)(d:Option Nat)(T:Tm):AV->List Blk->Prop:=λav L'=>K (di d av T) L'
def Cal(P:Program)(f:FuncId)(K:Tm->List Blk->Prop)(d:Option Nat)(T:Tm)(L:List Blk):Option (List AV)->Prop
 |some args=>af P f args L (Kon K d T)
 |none=>False
theorem akt{P:Program}{T:Tm}{L:List Blk}:Cal P f K d T L (some args)=af P f args L (Kon K d T):=rfl
def ah0(P:Program)(K:Tm->List Blk->Prop)(d:Option Nat)(T:Tm)(L:List Blk):Option AV->Option (List AV)->Prop
 |some (.func g caps),some args=>af P g (args++caps) L (Kon K d T)
 |some (.yld i),some args=>aaO P i args L (Kon K d T)
 |_,_=>False
theorem aar{P:Program}{T:Tm}{L:List Blk}:ah0 P K d T L (some (.yld i)) (some args)=aaO P i args L (Kon K d T):=rfl
theorem ahZ{P:Program}{T:Tm}{L:List Blk}{g:FuncId}{caps:List AV}:ah0 P K d T L (some (.func g caps)) (some args)=af P g (args++caps) L (Kon K d T):=rfl
def AOp(P:Program)(o:aw)(K:Tm->List Blk->Prop)(T:Tm)(L:List Blk):Prop :=
 match o.op with
 |.call f xs=>Cal P f K o.dst T L (jc T xs)
 |.callv f xs=>ah0 P K o.dst T L (evX T f) (jc T xs)
 |lo=>Res K o.dst T (au T L lo)
def Grd(P:Program)(o:aw)(K:Tm->List Blk->Prop)(b:Bool)(T:Tm)(L:List Blk):Option AV->Prop
 |some (.bool x)=>if x=b then AOp P o K T L else K (di o.dst (.tup []) T) L
 |some (.tup [])=>K (di o.dst (.tup []) T) L
 |_=>False
theorem EB{P:Program}{o:aw}{x:Bool}{T:Tm}{L:List Blk}:Grd P o K b T L (some (.bool x))=if x=b then AOp P o K T L else K (di o.dst (.tup []) T) L:=rfl
theorem acE{P:Program}{o:aw}{T:Tm}{L:List Blk}:Grd P o K b T L (some (.tup []))=K (di o.dst (.tup []) T) L:=rfl
def nj(P:Program)(K:Tm->List Blk->Prop):List aw->Tm->List Blk->Prop
 |[],T,L=>K T L
 | o::rest,T,L=>match o.guard with
   |none=>AOp P o (nj P K rest) T L
   |some (t,b)=>Grd P o (nj P K rest) b T L (ay T t)
theorem akx{P:Program}{T:Tm}{L:List Blk}:nj P K [] T L=K T L:=rfl
theorem ah1{P:Program}{op:LOp}{rest:List aw}{T:Tm}{L:List Blk}:nj P K (⟨d,op,none⟩::rest) T L=AOp P ⟨d,op,none⟩ (nj P K rest) T L:=rfl
theorem afG{P:Program}{op:LOp}{rest:List aw}{T:Tm}{L:List Blk}:nj P K (⟨d,op,some (t,b)⟩::rest) T L=Grd P ⟨d,op,some (t,b)⟩ (nj P K rest) b T L (ay T t):=rfl
def amr(N:Nat):Option Nat->Bool
 |some d=>decide (d<N)
 |none=>true
def nr(P:Program)(N:Nat)(own:Nat->Nat)(ops:Array Oper)(i:Nat):Option aw :=
 match ops[i]? with
 |none=>none
 | some o=>match (ki P (own i) o.op).getD .bad with
   | lo =>
     if amr N o.dst=true then
      match o.guard with
      |none=>some ⟨o.dst,lo,none⟩
      | some (j,b)=>match (ops[j]?).bind (·.dst) with
        |some t=>if t<N then some ⟨o.dst,lo,some (t,b)⟩else none
        |none=>none
     else none
def cQ(P:Program)(N:Nat)(own:Nat->Nat)(ops:Array Oper):List Nat->Option (List aw)
 |[]=>some []
 | i::l=>match nr P N own ops i,cQ P N own ops l with
   |some o,some m=>some (o::m)
   |_,_=>none
section
variable {P:Program}{w0:World}{S0:SB}{N:Nat}
theorem Y0(a:Act)(d:Option Nat)(v:Value):(a.put d v).tmps.size=a.tmps.size:=by cases d<;>simp[Act.put]
theorem R7(a:Act)(d:Option Nat)(v:Value):(a.put d v).defers=a.defers:=by cases d<;>simp[Act.put]
theorem TR.putT{E:Env}{T:Tm}{a:Act}{d:Option Nat}{x:AV}{v:Value}(r:TR E T a)(c:∀k,d=some k->k<a.tmps.size)(b:VR E x v):TR E (di d x T) (a.put d v):=by
 cases d with
 |none=>exact r
 |some k=>exact r.put (c k rfl) b
def mkD(D:Nat):Deferred:={target:=.collected D,args:=#[]}
def ael(w0:World)(S0:SB)(ds:List Deferred):Prop:=S0.B<=w0.heap.size/\ds.Nodup/\∀d∈ds,∃D,d=mkD D/\S0.B<=D/\D<w0.heap.size/\¬S0 D/\w0.heap[D]?=some (.deferred (some []))
theorem ael.nil{w0:World}{S0:SB}(h:S0.B<=w0.heap.size):ael w0 S0 []:=⟨h,List.nodup_nil,λ_ h=>by cases h⟩
def St(w0:World)(S0:SB)(N:Nat)(E:Env)(T:Tm)(L:List Blk)(a:Act)(w:World):Prop :=
 Rel w0 S0 E L w/\TR E T a/\a.tmps.size=N/\ael w0 S0 a.defers
theorem aeV{own:Nat}{s d:TypeId}{x:Opd}{a:LOp}(h:EM P own s d x=some a):a.isCall=false:=by
 unfold EM at h
 repeat' split at h
 all_goals (first|(cases h;rfl)|cases h)
theorem ahe{op:BinOp}{t:TypeId}{x y:Operand}{a:LOp}(h:Se P op t x y=some a):a.isCall=false:=by
 unfold Se at h
 repeat' split at h
 all_goals (first|(cases h;rfl)|cases h)
theorem aay{own:Nat}{b:Builtin}{ts:List TypeId}{xs:List Opd}{a:LOp}(h:dH P own b ts xs=some a):a.isCall=false:=by
 unfold dH at h
 repeat' split at h
 all_goals (first|(cases h;rfl)|cases h|(simp only[apE]at h;obtain⟨_,_,rfl⟩:=h;rfl))
theorem aji{own:Nat}{op:Op}{lo:LOp}(h:ki P own op=some lo)(hc:∀c,op≠.call c):lo.isCall=false:=by
 cases op
 case makeMap t r =>
  cases r with
  |some x=>simp[ki]at h
  | none =>
    simp only[ki]at h;split at h<;>cases h;rfl
 all_goals (simp only[ki]at h;try (cases h;done))
 case call c=>exact absurd rfl (hc c)
 case binOp=>exact ahe h
 case convert x=>simp only[aqC]at h;obtain⟨_,_,h⟩:=h;exact aeV h
 all_goals
  repeat' split at h
  all_goals (first|(cases h;rfl)|cases h|(simp only[apE]at h;obtain⟨_,_,rfl⟩:=h;rfl))
theorem Ol{own:Nat}{o:Oper}{lo:LOp}{gd:Option (Nat×Bool)}(hl':(ki P own o.op).getD .bad=lo)(hd:∀d,o.dst=some d->d<N){T:Tm}{L:List Blk}{E:Env}{a:Act}{w:World}{K:Tm->List Blk->Prop}(hst:St w0 S0 N E T L a w)(h:AOp P ⟨o.dst,lo,gd⟩ K T L){next:Act->World->Prop}{Q:Exit->Act->World->Prop}(hK:∀E' T' L' a' w',E.le E'->K T' L'->St w0 S0 N E' T' L' a' w'->next a' w'){r:Option Nat}:o.wpIn (gT r) 0 P a w next Q:=by
 have hl:ki P own o.op=some lo:=by rcases hq:ki P own o.op with _|x;rw[hq]at hl';simp only[arf]at hl';subst hl';exact h.elim;simp_all
 obtain⟨hR,hT,hN,hdf⟩:=hst;have hnd:∀c,o.op≠.defer c:=λc e=>by rw[e]at hl;simp[ki]at hl
 refine⟨λ_ _=>trivial,?_⟩;rw[Oper.semAt_plain _ _ _ hnd];have value:∀{E':Env}{v:Value}{av:AV}{L':List Blk}{w':World},E.le E'->VR E' av v->Rel w0 S0 E' L' w'->K (di o.dst av T) L'->next (a.put o.dst v) w':=λ{E' v av L' w'} h1 h2 h3 h4 =>
  hK E' _ _ _ _ h1 h4 ⟨h3,(hT.mono h1).putT (λk hk=>by rw[hN];exact hd k hk) h2,by rw[Y0];exact hN,by rw[R7];exact hdf⟩
 have called:∀{f:FuncId}{vs:List Value}{args:List AV},((execOp a.eval o).run P w=(callFunc f ⟨vs⟩).run P w)->VRL E args vs->af P f args L (Kon K o.dst T)->o.uponIn (gT r) 0 P a next Q ((execOp a.eval o).run P w):=λ{f vs args} hrun hv hc=>by rw[hrun];rcases hc w0 S0 E w vs hR hv with⟨h1,h2⟩|⟨E',v,av,L',w',h1,h2,h3,h4,h5⟩;rw[h1,Oper.uponIn_enter];refine⟨λh=>(by cases h),(ZR r _ h2).mono λe w' ⟨E',v,av,L',e1,h3,h4,h5,h6⟩=>?_⟩;subst e1;exact value h3 h5 h6 h4;rw[h1,Oper.uponIn_value];exact value h2 h4 h5 h3
 by_cases hcall:lo.isCall=true
 .obtain⟨d0,op,ty,pos,after,guard⟩:=o;by_cases hop:∃c,op=.call c
  .obtain⟨⟨callee,args,ats⟩,rfl⟩:=hop;simp only[ki]at hl;split at hl<;>try cases hl
   rename_i xs hx;split at hl<;>try cases hl
   rename_i f;simp only[AOp]at h;rcases hev:jc T xs with _|l;rw[hev]at h;exact h.elim;rw[hev]at h;refine called (vs:=args.toList.map a.eval) ?_ (tC hx hev hT) h;rw[execOp_call_go];congr 2
   grind
   .rename_i x _;rcases h1:bV x with _|y<;>simp only[h1,apI,apl,reduceCtorEq,ao1]at hl;subst hl;simp only[AOp]at h;rcases hev:evX T y with _|u;rw[hev]at h;exact h.elim;rcases hevs:jc T xs with _|l;rw[hev,hevs]at h;cases u<;>exact h.elim;rw[hev,hevs]at h;cases u<;>simp only[ah0]at h
    case yld i =>
     have hx':=aq h1 hev hT;simp only[VR]at hx';obtain⟨c,hc,hfv⟩:=hx';have hrun:(execOp a.eval {dst:=d0,op:=.call {callee:=.value x,args,argTypes:=ats},type:=ty,pos,after,guard}).run P w=(Instr.yield c.blk (args.map a.eval)).run P w:=by simp only[execOp,resolve,hfv,Deferred.ofValue,pure_bind,invoke];simp
     have hargs:(⟨args.toList.map a.eval⟩:Array Value)=args.map a.eval:=(by apply Array.ext';simp);obtain⟨fn,tmps,ca,cb,k1,k2⟩:=h w0 S0 E w _ hR (tC hx hevs hT) c hc;rw[hrun,<- hargs,k1,Oper.uponIn_round];refine⟨λh=>(by cases h),(ac1 r k2).mono λe w' ⟨E',v,av,L',e1,h3,h4,h5,h6⟩=>?_⟩;subst e1;exact value h3 h5 h6 h4
    rename_i g caps;have hx':=aq h1 hev hT;simp only[VR]at hx';obtain⟨cs,hfv,hcs⟩:=hx';refine called (vs:=args.toList.map a.eval++cs) ?_ ((tC hx hevs hT).append hcs) h;have:execOp a.eval {dst:=d0,op:=.call {callee:=.value x,args,argTypes:=ats},type:=ty,pos,after,guard}=callFunc g (args.map a.eval++⟨cs⟩):=by simp only[execOp,resolve,hfv,Deferred.ofValue,pure_bind,invoke];simp
    rw[this];congr 2;simp
   rw[aay hl]at hcall;cases hcall
  rw[aji hl (λc e=>hop ⟨c,e⟩)]at hcall;cases hcall
 have hcall:lo.isCall=false:=by simpa using hcall
 have h':Res K o.dst T (au T L lo):=by cases lo<;>simp only[LOp.isCall,aqm]at hcall<;>exact h
 rcases he:au T L lo with _|⟨c,av,L'⟩;rw[he]at h';exact h'.elim;rw[he]at h';obtain⟨E',v,w',h1,h2,h3,h4⟩:=acp hR hT hl hcall he h'.1;rcases h1 with h1|⟨h1,rfl⟩;rw[h1,Oper.uponIn_value];exact value h2 h3 h4 h'.2;rw[h1,Oper.uponIn_skip];exact value h2 h3 h4 h'.2
end
section
variable {P:Program}{w0:World}{S0:SB}{N:Nat}
theorem kr{E:Env}{T:Tm}{a:Act}{ops:Array Oper}{j t:Nat}(c:TR E T a)(d:(ops[j]?).bind (·.dst)=some t)(e:t<a.tmps.size):
  (∀x,ay T t=some (.bool x)->yielded ops a.tmps j=some x)/\(ay T t=some (.tup [])->yielded ops a.tmps j=none):=by
 refine⟨λx b=>?_,λb=>?_⟩;have:=c t _ b;simp only[VR]at this;unfold yielded;simp_all;have:=c t _ b;obtain⟨vs,f,g⟩:=this;unfold yielded;simp_all
theorem ja{own:Nat->Nat}{ops:Array Oper}{i:Nat}{a:aw}(h:nr P N own ops i=some a):
  ∃o,ops[i]?=some o/\(ki P (own i) o.op).getD .bad=a.op/\o.dst=a.dst/\(∀d,o.dst=some d->d<N) /\
   ((o.guard=none/\a.guard=none)\/∃j b t,o.guard=some (j,b)/\(ops[j]?).bind (·.dst)=some t/\t<N/\a.guard=some (t,b)):=by
 unfold nr at h;split at h;cases h;rename_i o g;split at h;rename_i c;have f:∀d,o.dst=some d->d<N:=λd e=>by rw[e]at c;simpa[amr]using c
 grind
 cases h
theorem S5{E:Env}{T:Tm}{L:List Blk}{a:Act}{w:World}(h:St w0 S0 N E T L a w){d:Option Nat}(c:∀k,d=some k->k<N):St w0 S0 N E (di d (.tup []) T) L (a.put d undef) w :=
 ⟨h.1,h.2.1.putT (λk b=>by rw[h.2.2.1];exact c k b) ⟨[],rfl,rfl⟩,by rw[Y0];exact h.2.2.1,by rw[R7];exact h.2.2.2⟩
theorem SJ{own:Nat->Nat}{ops:Array Oper}{K:Tm->List Blk->Prop}{Q:Exit->Act->World->Prop}{r:Option Nat}:∀(is:List Nat) (d:List aw),cQ P N own ops is=some d ->
  ∀{T:Tm}{L:List Blk}{E:Env}{a:Act}{w:World},St w0 S0 N E T L a w->nj P K d T L->(∀E' T' L' F w',E.le E'->K T' L'->St w0 S0 N E' T' L' F w'->Q .normal F w')->wpOpsIn (gT r) 0 P ops Q is a w
 |[],d,hl,T,L,E,a,w,hst,h,hK=>by simp[cQ]at hl;subst hl;exact hK E T L a w (.refl E) h hst
 | i::is,d,hl,T,L,E,a,w,hst,h,hK=>by
   simp only[cQ]at hl;split at hl<;>try cases hl
   rename_i S c R H;obtain⟨o,M,q,m,G,O⟩:=ja R;obtain⟨U,n,J⟩:=S;subst m;simp only[wpOpsIn,M];have go:AOp P ⟨o.dst,n,J⟩ (nj P K c) T L->o.wpIn (gT r) 0 P a w (wpOpsIn (gT r) 0 P ops Q is) Q:=λp =>
    Ol q G hst p λE' T' L' F w' v s k=>SJ is c H k s λD z y B C g=>hK D z y B C (v.trans g)
   have f:nj P K c (di o.dst (.tup []) T) L->wpOpsIn (gT r) 0 P ops Q is (a.put o.dst undef) w:=λp =>
    SJ is c H (S5 hst G) p hK
   rcases O with⟨g1,A⟩|⟨j,b,t,g1,A,g3,g4⟩
   .subst A;rw[if_pos (by simp[Region.wanted,g1])];exact go h
   .subst g4;simp only[nj]at h;have I:=kr (E:=E) (T:=T) (a:=a) (ops:=ops) hst.2.1 A (by rw[hst.2.2.1];exact g3);rcases hx:ay T t with _|u
    .rw[hx]at h;exact h.elim
    rw[hx]at h;cases u<;>try exact h.elim
    .rename_i x;rw[EB]at h;have:=I.1 x hx;by_cases e:x=b
     .rw[if_pos (by simp[Region.wanted,g1,this,e])];simp_all
     .rw[if_neg (by simp[Region.wanted,g1,this,e])];rw[if_neg e]at h;exact⟨λ_ _=>trivial,f h⟩
    .rename_i l;cases l with
     |cons _ _=>exact h.elim
     | nil =>
       have:=I.2 hx;rw[if_neg (by simp[Region.wanted,g1,this])];exact⟨λ_ _=>trivial,f h⟩
theorem St.weak{T:Tm}{L:List Blk}{E:Env}{a:Act}{w:World}{T':Tm}{L':List Blk}(h:St w0 S0 N E T L a w)(c:∀t v,ay T' t=some v->ay T t=some v)(d:L'.length=L.length)(b:∀(i:Nat) (k:Blk),L'[i]?=some k->k=.dead\/L[i]?=some k):St w0 S0 N E T' L' a w:=⟨h.1.kill d b,h.2.1.weak c,h.2.2⟩
end
def Opd.tmps:Opd->List Nat
 |.tmp t=>[t]
 |.av _=>[]
def ag7:Option Opd->List Nat
 |some x=>x.tmps
 |none=>[]
def abS:List (Nat×Nat×Opd)->List Nat
 |[]=>[]
 |(_,_,x)::l=>x.tmps++abS l
def aa7:List Opd->List Nat
 |[]=>[]
 |x::l=>x.tmps++aa7 l
def LOp.tmps:LOp->List Nat
 |.mv x|.box x|.load _ _ x|.nilchk x|.slnil _ x|.un _ x|.conv _ x|.sconv x|.b2s x|.s2b x|.s2bO x|.s2bG x|.rangeS x|.nextS x|.mkif _ x|.faddr _ x|.field _ _ _ x|.extract x _|.len _ x|.cap x|.clear _ _ x=>x.tmps
 |.pick c a b=>c.tmps++a.tmps++b.tmps
 |.alloc _|.bad|.mkmap=>[]
 |.mlen x|.mrange x|.mnext x|.mentry x=>x.tmps
 |.mget _ _ _ a x=>a.tmps++x.tmps
 |.mdel _ a x=>a.tmps++x.tmps
 |.mset _ c a b=>c.tmps++a.tmps++b.tmps
 |.build _ ps|.bslice _ _ _ _ ps=>abS ps
 |.store _ a x|.bin _ a x|.eqk _ _ a x|.eq2 _ a x|.mkslice _ _ _ a x|.iaddr _ a x|.iaddrA _ _ a x|.idxS a x|.app _ _ _ _ a x|.appz _ _ _ a x|.copy _ a x=>a.tmps++x.tmps
 |.mkfn _ l|.minmax _ l|.call _ l=>aa7 l
 |.callv f l=>f.tmps++aa7 l
 |.slS x lo hi|.slA _ _ x lo hi=>x.tmps++ag7 lo++ag7 hi
 |.slV _ x lo hi mx=>x.tmps++ag7 lo++ag7 hi++ag7 mx
section
variable {T T':Tm}{L:List Blk}
theorem aF{x:Opd}(h:∀t∈x.tmps,ay T t=ay T' t):evX T x=evX T' x:=by
 cases x with
 |tmp t=>exact h t (by simp[Opd.tmps])
 |av a=>rfl
theorem ng{x:Option Opd}(h:∀t∈ag7 x,ay T t=ay T' t):bnd T x=bnd T' x:=by
 cases x with
 |none=>rfl
 |some x=>simp only[bnd,aF (x:=x) h]
theorem jI:∀{l:List Opd},(∀t∈aa7 l,ay T t=ay T' t)->jc T l=jc T' l
 |[],_=>rfl
 |x::l,h=>by simp only[aa7,ao5]at h;simp only[jc,aF (x:=x) (λt a=>h t (.inl a)),jI (l:=l) (λt a=>h t (.inr a))]
theorem ND:∀{ps:List (Nat×Nat×Opd)}{z:List AV},(∀t∈abS ps,ay T t=ay T' t)->lM T z ps=lM T' z ps
 |[],_,_=>rfl
 | (o,s,x)::l,z,h=>by
   simp only[abS,ao5]at h;simp only[lM,aF (x:=x) (λt a=>h t (.inl a))];split
   .split
    .exact ND λt a=>h t (.inr a)
    .rfl
   .rfl
theorem VK{lo:LOp}(h:∀t∈lo.tmps,ay T t=ay T' t):au T L lo=au T' L lo:=by
 cases lo
 case mv x=>simp only[au,evD,aF (x:=x) h]
 case box x=>simp only[au,evD,aF (x:=x) h]
 case load g s x=>simp only[au,evD,aF (x:=x) h]
 case nilchk x=>simp only[au,evD,aF (x:=x) h]
 case un o x=>simp only[au,evD,aF (x:=x) h]
 case conv k x=>simp only[au,evD,aF (x:=x) h]
 case sconv x=>simp only[au,evD,aF (x:=x) h]
 case b2s x=>simp only[au,evD,aF (x:=x) h]
 case bad=>rfl
 case mkmap=>rfl
 case mlen x=>simp only[au,evD,aF (x:=x) h]
 case mrange x=>simp only[au,evD,aF (x:=x) h]
 case mnext x=>simp only[au,evD,aF (x:=x) h]
 case mentry x=>simp only[au,evD,aF (x:=x) h]
 case mget kd ok z a x =>
  simp only[LOp.tmps,ao5]at h;simp only[au,evD,aF (x:=a) (λt ht=>h t (.inl ht)),aF (x:=x) (λt ht=>h t (.inr ht))]
 case mdel kd a x =>
  simp only[LOp.tmps,ao5]at h;simp only[au,evD,aF (x:=a) (λt ht=>h t (.inl ht)),aF (x:=x) (λt ht=>h t (.inr ht))]
 case mset kd c a b =>
  simp only[LOp.tmps,ao5]at h;simp only[au,evD,aF (x:=c) (λt ht=>h t (.inl (.inl ht))),aF (x:=a) (λt ht=>h t (.inl (.inr ht))),aF (x:=b) (λt ht=>h t (.inr ht))]
 case slnil _ x=>simp only[au,evD,aF (x:=x) h]
 case s2b x=>simp only[au,evD,aF (x:=x) h]
 case s2bO x=>simp only[au,evD,aF (x:=x) h]
 case s2bG x=>simp only[au,evD,aF (x:=x) h]
 case rangeS x=>simp only[au,evD,aF (x:=x) h]
 case nextS x=>simp only[au,evD,aF (x:=x) h]
 case mkif t x=>simp only[au,evD,aF (x:=x) h]
 case faddr o x=>simp only[au,evD,aF (x:=x) h]
 case field g o s x=>simp only[au,evD,aF (x:=x) h]
 case extract x i=>simp only[au,evD,aF (x:=x) h]
 case len b x=>cases b<;>simp only[au,evD,aF (x:=x) h]
 case cap x=>simp only[au,evD,aF (x:=x) h]
 case clear s z x=>simp only[au,evD,aF (x:=x) h]
 case alloc z=>rfl
 case pick c a b =>
  simp only[LOp.tmps,ao5]at h;simp only[au,evD,aF (x:=c) (λt ht=>h t (.inl (.inl ht))),aF (x:=a) (λt ht=>h t (.inl (.inr ht))),aF (x:=b) (λt ht=>h t (.inr ht))]
 case build z ps=>simp only[au,evD,ND (ps:=ps) h]
 case bslice o s n z ps=>simp only[au,evD,ND (ps:=ps) h]
 case mkfn f l=>simp only[au,evD,jI (l:=l) h]
 case minmax m l =>
  match l,h with
  | [x,y],h =>
    simp only[LOp.tmps,aa7,ao5,apG]at h;simp only[au,evD,aF (x:=x) (λt ht=>h t (.inl ht)),aF (x:=y) (λt ht=>h t (.inr ht))]
  |[],_=>rfl
  |[_],_=>rfl
  |_::_::_::_,_=>rfl
 case call f l=>rfl
 case callv f l=>rfl
 case slS x lo hi =>
  simp only[LOp.tmps,ao5]at h;simp only[au,evD,aF (x:=x) (λt ht=>h t (.inl (.inl ht))),ng (x:=lo) (λt ht=>h t (.inl (.inr ht))),ng (x:=hi) (λt ht=>h t (.inr ht))]
 case slA n s x lo hi =>
  simp only[LOp.tmps,ao5]at h;simp only[au,evD,aF (x:=x) (λt ht=>h t (.inl (.inl ht))),ng (x:=lo) (λt ht=>h t (.inl (.inr ht))),ng (x:=hi) (λt ht=>h t (.inr ht))]
 case slV s x lo hi mx =>
  simp only[LOp.tmps,ao5]at h;simp only[au,evD,aF (x:=x) (λt ht=>h t (.inl (.inl (.inl ht)))),ng (x:=lo) (λt ht=>h t (.inl (.inl (.inr ht)))),ng (x:=hi) (λt ht=>h t (.inl (.inr ht))),ng (x:=mx) (λt ht=>h t (.inr ht))]
 all_goals
  rename_i a x;simp only[LOp.tmps,ao5]at h;simp only[au,evD,aF (x:=a) (λt ht=>h t (.inl ht)),aF (x:=x) (λt ht=>h t (.inr ht))]
end
def aw.reads(o:aw):List Nat :=
 o.op.tmps++(match o.guard with|some (t,_)=>[t]|none=>[])
def AQv(P:Program)(o:aw)(T:Tm)(L:List Blk)(v:AV):Prop :=
 match o.op with
 | .call f xs=>match jc T xs with
   |some args=>af P f args L λav L'=>av=v/\L'=L
   |none=>False
 | .callv f xs=>match evX T f,jc T xs with
   |some (.func g caps),some args=>af P g (args++caps) L λav L'=>av=v/\L'=L
   |_,_=>False
 | lo=>match au T L lo with
   |some (c,av,L')=>c/\av=v/\L'=L
   |none=>False
def AQ(P:Program)(o:aw)(T:Tm)(L:List Blk)(v:AV):Prop :=
 match o.guard with
 |none=>AQv P o T L v
 | some (t,b)=>match ay T t with
   |some (.bool x)=>if x=b then AQv P o T L v else v=.tup []
   |some (.tup [])=>v=.tup []
   |_=>False
theorem AQ.congr{P:Program}{o:aw}{T T':Tm}{L:List Blk}(h:∀t∈o.reads,ay T t=ay T' t)(g:AQ P o T L v):AQ P o T' L v:=by
 have a:∀t∈o.op.tmps,ay T t=ay T' t:=λt d=>h t (by simp[aw.reads,d])
 have c:AQv P o T L v->AQv P o T' L v:=λc=>by unfold AQv at c⊢;split at c;rename_i f xs e;rw[e]at a;rw[<- jI (l:=xs) a];exact c;rename_i f xs e;rw[e]at a;simp only[LOp.tmps,ao5]at a;rw[<- jI (l:=xs) (λt d=>a t (.inr d)),<- aF (x:=f) (λt d=>a t (.inl d))];exact c;rw[<- VK a];exact c
 unfold AQ at g⊢;split at g;simp[*];rename_i t b i;rw[<- h t (by simp[aw.reads,i])]
 grind
def TL(T:Tm):List aw->List AV->Nat->(Nat->Bool)->Tm
 |o::qs,v::tr,k,f=>TL (if f k=true then di o.dst v T else T) qs tr (k+1) f
 |_,_,_,_=>T
def aep:List aw->Prop
 |[]=>True
 |o::qs=>(∀p∈qs,∀d,o.dst=some d->p.dst≠some d)/\aep qs
theorem EN{T:Tm}(h:d≠some t):ay (di d v T) t=ay T t:=by
 cases d with
 |none=>rfl
 |some d=>simp only[di,ay];rw[if_neg (λe=>h (by rw[e]))]
theorem Vy{T:Tm}:ay (di (some t) v T) t=some v:=by simp[di,ay]
theorem YB{t:Nat}:∀{qs:List aw}{tr:List AV}{T:Tm}{k:Nat}{f:Nat->Bool},(∀(j:Nat) (o:aw),qs[j]?=some o->o.dst=some t->f (k+j)=false)->ay (TL T qs tr k f) t=ay T t
 |[],tr,T,k,f,_=>by cases tr<;>rfl
 |o::qs,[],T,k,f,_=>rfl
 | o::qs,v::tr,T,k,f,h=>by
   simp only[TL];rw[YB (λj p a b=>by have:=h (j+1) p (by simpa using a) b;rwa[show k+1+j=k+(j+1)by omega])];split
   .rename_i hf;refine EN λe=>?_
    have:=h 0 o asp e;simp_all
   .rfl
theorem agr{t:Nat}{v:AV}:∀{qs:List aw}{tr:List AV}{T:Tm}{k:Nat}{f:Nat->Bool}{j:Nat}{o:aw},aep qs->qs[j]?=some o->o.dst=some t->tr[j]?=some v->f (k+j)=true->ay (TL T qs tr k f) t=some v
 |[],_,_,_,_,j,o,_,h,_,_,_=>by simp at h
 |p::qs,[],_,_,_,j,o,_,_,_,h,_=>by simp at h
 |p::qs,u::tr,T,k,f,0,o,hD,h,hd,hv,hf=>by simp only[apU,ao1]at h hv;subst h hv;simp only[TL];simp only[aqe]at hf;rw[if_pos hf,YB λj q b a=>absurd a (hD.1 q (apR b) t hd),hd];exact Vy
 |p::qs,u::tr,T,k,f,j+1,o,hD,h,hd,hv,hf=>by simp only[TL];exact agr hD.2 (by simpa using h) hd (by simpa using hv) (by rwa[show k+1+j=k+(j+1)by omega])
theorem acC:∀{qs:List aw}{tr:List AV}{T:Tm}{k:Nat}{f g:Nat->Bool},(∀j,j<qs.length->f (k+j)=g (k+j))->TL T qs tr k f=TL T qs tr k g
 |[],tr,T,k,f,g,_=>by cases tr<;>rfl
 |o::qs,[],T,k,f,g,_=>rfl
 |o::qs,v::tr,T,k,f,g,h=>by simp only[TL];have a:=h 0 asp;simp only[aqe]at a;rw[a];exact acC λj b=>by rw[show k+1+j=k+(j+1)by omega];exact h (j+1) (by simpa using b)
theorem aef:∀(qs:List aw) (tr:List AV) (T:Tm) (k:Nat),TL T qs tr k (λ_=>false)=T:=by
 intro qs;induction qs with
 |nil=>intro tr T k;cases tr<;>rfl
 | cons q qs ih=>intro tr T k;cases tr with
   |nil=>rfl
   |cons u tr=>simp only[TL];rw[ih];simp
theorem N4{t:Nat}:∀{qs:List aw}{i j:Nat}{o p:aw},aep qs->qs[i]?=some o->qs[j]?=some p->o.dst=some t->p.dst=some t->i=j
 |[],i,j,o,p,_,h,_,_,_=>by simp at h
 |q::qs,0,0,o,p,_,_,_,_,_=>rfl
 |q::qs,0,j+1,o,p,hD,h1,h2,d1,d2=>by simp only[apU,ao1]at h1;subst h1;exact absurd d2 (hD.1 p (apR (by simpa using h2)) t d1)
 |q::qs,i+1,0,o,p,hD,h1,h2,d1,d2=>by simp only[apU,ao1]at h2;subst h2;exact absurd d1 (hD.1 o (apR (by simpa using h1)) t d2)
 |q::qs,i+1,j+1,o,p,hD,h1,h2,d1,d2=>by have:=N4 (i:=i) (j:=j) (o:=o) (p:=p) hD.2 (by simpa using h1) (by simpa using h2) d1 d2;omega
theorem acA{qs:List aw}{tr:List AV}{T:Tm}{f:Nat->Bool}{j:Nat}{o:aw}(g:aep qs)(k:tr.length=qs.length)(h:qs[j]?=some o)(e:o.dst=some t):
  ay (TL T qs tr 0 f) t=if f j=true then tr[j]? else ay T t:=by
 have c:j<tr.length:=by have:=(aoZ.1 h).1;omega
 split;rename_i d;rw[ao8 c];exact agr g h e (ao8 c) (by simpa using d);rename_i d;exact YB λl i a b=>by have:=N4 g a h b e;simp[*]
theorem acB{qs:List aw}{tr:List AV}{T:Tm}{f:Nat->Bool}(h:∀(j:Nat) (o:aw),qs[j]?=some o->o.dst≠some t):ay (TL T qs tr 0 f) t=ay T t :=
 YB λj o a b=>absurd b (h j o a)
def agj(tbl:List Nat)(o:Oper):Nat:=(o.after.toList.filter λe=>Region.binds .any e).foldl (λacc e=>acc |||(1 <<< e.on) |||tbl.getD e.on 0) 0
def ph:List Oper->List Nat->List Nat
 |[],t=>t
 |o::l,t=>ph l (t++[agj t o])
def ajT(ops:Array Oper)(tbl:List Nat):Bool:=ops.toList.zipIdx.all λ(o,i)=>tbl.getD i 0 == agj tbl o
theorem abx{o:Oper}{j:Nat}(h:(agj tbl o).testBit j=true):∃e∈o.after.toList,Region.binds .any e=true/\(j=e.on\/(tbl.getD e.on 0).testBit j=true):=by
 have key:∀(l:List Edge) (b:Nat),(l.foldl (λb e=>b |||(1 <<< e.on) |||tbl.getD e.on 0) b).testBit j=true->b.testBit j=true\/∃e∈l,j=e.on\/(tbl.getD e.on 0).testBit j=true:=by
  intro l;induction l with
  |nil=>intro b h;exact .inl h
  | cons e l ih =>
    intro b h;rcases ih _ h with a|⟨d,a,c⟩
    .rw[Nat.testBit_or,Nat.testBit_or,apN,apN]at a;rcases a with(a|a)|a
     .simp[*]
     .refine .inr ⟨e,asp,.inl ?_⟩;rw[Nat.one_shiftLeft,Nat.testBit_two_pow]at a;exact(of_decide_eq_true a).symm
     .exact .inr ⟨e,asp,.inr a⟩
    .exact .inr ⟨d,by simp[a],c⟩
 rcases key _ _ h with a|⟨e,a,c⟩;simp at a;rw[apC]at a;exact⟨e,a.1,a.2,c⟩
def agi:List aw->Bool
 |[]=>true
 |o::qs=>(match o.dst with|some d=>qs.all λp => !(p.dst == some d)|none=>true)&&agi qs
theorem ZH:∀{qs:List aw},agi qs=true->aep qs
 |[],_=>trivial
 |o::qs,h=>by simp only[agi,ao3]at h;refine⟨λp b d a=>?_,ZH h.2⟩;simp_all
def anO(tbl:List Nat)(los:List aw):Bool :=
 los.zipIdx.all λ(o,i)=>o.reads.all λt=>los.zipIdx.all λ(p,j) => !(p.dst == some t) ||(tbl.getD i 0).testBit j ||(tbl.getD j 0).testBit i
def aaj(ops:Array Oper):Bool:=ops.toList.zipIdx.all λ(o,i)=>o.after.toList.all λe => !Region.binds .any e ||decide (e.on<i)
def afs(tbl:List Nat)(n k:Nat):Bool:=(List.range k).all λi=>decide (i<n) ||(List.range i).all λj=>(tbl.getD i 0).testBit j
def abz(tbl:List Nat)(k:Nat):Nat->Nat
 |0=>0
 |n+1=>if((List.range n).all λj=>(tbl.getD n 0).testBit j)=true then abz tbl k n else n+1
def NF(ops:Array Oper)(los:List aw)(n:Nat):Bool :=
 let tbl:=ph ops.toList []
 agi los&&anO tbl los&&aaj ops&&ajT ops tbl&&afs tbl n ops.size
def WQ(ops:Array Oper)(listed:Array Bool):Prop:=∀(i:Nat) (o:Oper),listed.getD i false=true->ops[i]?=some o->∀e∈o.after,Region.binds .any e=true->listed.getD e.on false=true
theorem afQ{ops:Array Oper}(b:ajT ops tbl=true){o:Oper}(a:ops[i]?=some o):tbl.getD i 0=agj tbl o:=by have:=apa.1 b (o,i) (by rw[ari];simpa using a);simp_all
theorem Om{ops:Array Oper}(h:aaj ops=true){o:Oper}(a:ops[i]?=some o){e:Edge}(c:e∈o.after)(b:Region.binds .any e=true):e.on<i:=by
 have:=apa.1 h (o,i) (by rw[ari];simpa using a)
 grind
theorem act{ops:Array Oper}(h:aaj ops=true)(g:ajT ops tbl=true):∀(i j:Nat),i<ops.size->(tbl.getD i 0).testBit j=true->j<i:=by
 intro i;induction i using Nat.strongRecOn with
 | _ i ih =>
   intro j k a;have b:ops[i]?=some ops[i]:=apW k;rw[afQ g b]at a;obtain⟨e,d,c,a⟩:=abx a;have f:=Om h b (by simpa using d) c
   grind
theorem gV{ops:Array Oper}(h:aaj ops=true)(t:ajT ops tbl=true){a:Array Bool}(p:WQ ops a):∀(i j:Nat),i<ops.size ->
  (∀o,ops[i]?=some o->∀e∈o.after,Region.binds .any e=true->a.getD e.on false=true)->(tbl.getD i 0).testBit j=true->a.getD j false=true:=by
 intro i;induction i using Nat.strongRecOn with
 | _ i ih =>
   intro j q d b;have k:ops[i]?=some ops[i]:=apW q;rw[afQ t k]at b;obtain⟨e,n,m,b⟩:=abx b;have c:=Om h k (by simpa using n) m;have s:=d _ k e (by simpa using n) m;rcases b with rfl|b
   .omega
   .exact ih e.on c j aso (λr l u f g=>p e.on r s l u f g) b
theorem ahF:∀(l:List Bool) (i:Nat),l[i]?=some false->(l.set i true).count false+1=l.count false
 |[],i,h=>by simp at h
 |b::l,0,h=>by simp at h;subst h;simp
 |b::l,i+1,h=>by grind
theorem EL{P:Program}{N:Nat}{own:Nat->Nat}{ops:Array Oper}:∀{is:List Nat}{a:List aw},cQ P N own ops is=some a->a.length=is.length/\∀(k i:Nat),is[k]?=some i->∃b,a[k]?=some b/\nr P N own ops i=some b
 |[],a,h=>by simp[cQ]at h;subst h;simp
 | j::is,a,h=>by
   simp only[cQ]at h;split at h<;>try cases h
   rename_i o m d c;have:=EL c
   grind
section
variable {P:Program}{r:Option Nat}{w0:World}{S0:SB}{N:Nat}{own:Nat->Nat}{ops:Array Oper}{L:List Blk}
theorem akf{i:Nat}{q:aw}(V:nr P N own ops i=some q){T:Tm}{v:AV}{E:Env}{a:Act}{w:World}(d:St w0 S0 N E T L a w)(l:AQ P q T L v){K:Act->World->Prop}{Q:Exit->Act->World->Prop}(C:∀E' H w',E.le E'->St w0 S0 N E' (di q.dst v T) L H w'->K H w'):wpOpIn (gT r) 0 P ops Q i K a w:=by
 obtain⟨o,U,n,m,u,O⟩:=ja V;obtain⟨X,k,s⟩:=q;simp only at n m O C;subst m;unfold wpOpIn;simp only[U];have p:AQv P ⟨o.dst,k,s⟩ T L v->AOp P ⟨o.dst,k,s⟩ (λT' L'=>T'=di o.dst v T/\L'=L) T L:=λh=>by
  unfold AQv at h;unfold AOp;simp only at h⊢;split at h;split at h;rename_i f xs _ args z;show Cal P f _ o.dst T L (jc T xs);rw[z];exact h.mono λav L' ⟨B,y⟩=>by subst B;exact⟨rfl,y⟩
  simp_all;split at h;rename_i f xs _ _ g caps args A F;show ah0 P _ o.dst T L (evX T f) (jc T xs);rw[A,F];exact h.mono λav L' ⟨B,y⟩=>by subst B;exact⟨rfl,y⟩
  simp_all;split at h;rename_i c av L' z;have I:Res (λT' L'=>T'=di o.dst v T/\L'=L) o.dst T (au T L k):=by rw[z];obtain⟨S,rfl,rfl⟩:=h;exact⟨S,rfl,rfl⟩
  simp_all;simp_all
 have go:AQv P ⟨o.dst,k,s⟩ T L v->o.wpIn (gT r) 0 P a w K Q:=λh =>
  Ol n u d (p h) λE' T' L' H w' R W J=>by grind
 unfold AQ at l;rcases O with⟨g1,G⟩|⟨j,b,t,g1,G,g3,g4⟩;subst G;simp only at l;rw[if_pos (by simp[Region.wanted,g1])];simp[*];subst g4;simp only at l;have M:=kr (E:=E) (T:=T) (a:=a) (ops:=ops) d.2.1 G (by rw[d.2.2.1];exact g3);split at l;rename_i x D;have:=M.1 x D;by_cases e:x=b;rw[if_pos e]at l;rw[if_pos (by simp[Region.wanted,g1,this,e])];simp[*];rw[if_neg e]at l;subst l;rw[if_neg (by simp[Region.wanted,g1,this,e])];exact⟨λ_ _=>trivial,C E _ w (.refl E) (S5 d u)⟩;rename_i D;have:=M.2 D;subst l;rw[if_neg (by simp[Region.wanted,g1,this])];exact⟨λ_ _=>trivial,C E _ w (.refl E) (S5 d u)⟩;simp_all
theorem aai{i:Nat}{z:aw}(H:nr P N own ops i=some z){T:Tm}{L:List Blk}{E:Env}{a:Act}{w:World}(c:St w0 S0 N E T L a w){K:Tm->List Blk->Prop}(h:nj P K [z] T L){k:Act->World->Prop}{Q:Exit->Act->World->Prop}(B:∀E' T' L' m w',E.le E'->K T' L'->St w0 S0 N E' T' L' m w'->k m w'):wpOpIn (gT r) 0 P ops Q i k a w:=by
 obtain⟨o,F,p,g,A,G⟩:=ja H;obtain⟨I,y,D⟩:=z;subst g;unfold wpOpIn;simp only[F];have go:AOp P ⟨o.dst,y,D⟩ (nj P K []) T L->o.wpIn (gT r) 0 P a w k Q:=λn =>
  Ol p A c n λE' T' L' m w' s q f=>B E' T' L' m w' s q f
 have d:K (di o.dst (.tup []) T) L->k (a.put o.dst undef) w:=λn=>B E _ L _ w (.refl E) n (S5 c A)
 rcases G with⟨g1,v⟩|⟨j,b,t,g1,v,g3,g4⟩;subst v;rw[if_pos (by simp[Region.wanted,g1])];exact(go h);subst g4;simp only[nj]at h;have C:=kr (E:=E) (T:=T) (a:=a) (ops:=ops) c.2.1 v (by rw[c.2.2.1];exact g3);rcases hx:ay T t with _|u;rw[hx]at h;exact h.elim;rw[hx]at h;cases u<;>try exact h.elim
 rename_i x;rw[EB]at h;have:=C.1 x hx;by_cases e:x=b;rw[if_pos (by simp[Region.wanted,g1,this,e])];rw[if_pos e]at h;exact(go h);rw[if_neg (by simp[Region.wanted,g1,this,e])];rw[if_neg e]at h;exact⟨λ_ _=>trivial,d h⟩;rename_i l;cases l with
 |cons _ _=>exact h.elim
 | nil =>
   have:=C.2 hx;rw[if_neg (by simp[Region.wanted,g1,this])];exact⟨λ_ _=>trivial,d h⟩
theorem aez{F:List aw}{tbl:List Nat}{n:Nat}(I:cQ P N own ops (List.range ops.size)=some F)(c:aaj ops=true)(C:ajT ops tbl=true)(u:afs tbl n ops.size=true){K:Tm->List Blk->Prop}{Q:Exit->Act->World->Prop}{E0:Env}(hQ:∀E' T' L' R w',E0.le E'->K T' L'->St w0 S0 N E' T' L' R w'->Q .normal R w'):
  ∀(ts:List aw) (k:Nat) (b:Array Bool) (T:Tm) (L:List Blk) (a:Act) (w:World) (E:Env),n<=k->k+ts.length=ops.size->F.drop k=ts->b.size=ops.size ->
   (∀i,i<ops.size->b.getD i false=decide (i<k))->WQ ops b->E0.le E->St w0 S0 N E T L a w->nj P K ts T L->wpAnyIn (gT r) 0 P .any ops Q ts.length b a w:=by
 have J:=EL I;have q:∀(k:Nat) (b:Array Bool),n<=k->b.size=ops.size->(∀i,i<ops.size->b.getD i false=decide (i<k))->WQ ops b->∀i∈Region.ready .any ops b,i=k:=by
  intro k b s p v f i A;obtain⟨ad,o,Z,Y⟩:=mem_ready.1 A;have D:i<ops.size:=(apP.1 Z).1;have M:¬i<k:=λe=>by simp_all
  rcases apt k i with h1|h1;have:=apa.1 u i (by simpa using D);simp only[apN,decide_eq_true_eq]at this;rcases this with h2|h2;omega;have h3:=apa.1 h2 k (by simpa using h1);have h4:=gV c C f i k D (λo' m=>by rw[Z]at m;cases m;exact Y) h3
  grind
  omega
 intro ts;induction ts with
 | nil =>
   intro k b T L a w E s hk z p v f S x h;refine⟨List.eq_nil_iff_forall_not_mem.2 (λi A=>?_),hQ E T L a w S h x⟩;have h1:=q k b s p v f i A;obtain⟨_,o,Z,_⟩:=mem_ready.1 A;simp_all
 | cons t ts ih =>
   intro k b T L a w E s hk z p v f S x h;simp only[apb]at hk;have y:k<ops.size:=aso;have G:k∈Region.ready .any ops b:=by
    refine mem_ready.2 ⟨?_,ops[k],apW y,λe O U=>?_⟩
    .simp_all
    .have:=Om c (apW y) O U;rw[v _ aso];simpa using this
   refine⟨λe=>absurd G (by rw[e];simp),λi A=>?_⟩;have M:=q k b s p v f i A;subst M;obtain⟨W,g1,g2⟩:=J.2 i i (by simp[y]);have ht:W=t:=by have:=congrArg (λl=>l[0]?) z;simp only[apY,aqe,apU]at this;rw[g1]at this;exact Option.some.inj this
   subst ht;have h':nj P (nj P K ts) [W] T L:=by obtain⟨d,op,g⟩:=W;cases g<;>exact h
   exact aai g2 x h' λE' T' L' R w' X V H=>by
    refine ih (i+1) (b.setIfInBounds i true) T' L' R w' E' aso aso ?_ (by simpa using p) (λj B=>?_) ?_ (S.trans X) H V
    .rw[<- arP,z];rfl
    .by_cases e:j=i
     .subst e;have:j<b.size:=aso;simp[aqv,this]
     .rw[getD_set_ne false (Ne.symm e),v j B];congr 1;apply propext;omega
    .intro j o' B m e O hb;have h5:=Om c m O hb;have h6:j<ops.size:=(apP.1 m).1;by_cases e1:j=i
     .subst e1;rw[getD_set_ne false aso,v _ aso];simpa using h5
     .rw[getD_set_ne false (Ne.symm e1)]at B;rw[getD_set_ne false (by rw[v j h6]at B;simp at B;omega)];exact f j o' B m e O hb
def lst(L:List Blk)(al:Option (Nat×List AV))(listed:Array Bool):List Blk :=
 match al with
 |some (i,z)=>if listed.getD i false=true then L++[.cells z]else L
 |none=>L
end
end Go.Proofs.YtdnfjhflkkpokaaGreatDoor.Av
