/- Joined texts of the walk, made small by a program. -/
import Derived.Test.YtdnfjhflkkpokaaGreatDoorFk2
import Derived.MapKept
set_option linter.unusedSimpArgs false
set_option linter.unusedVariables false
namespace Go.Proofs.YtdnfjhflkkpokaaGreatDoor.Av
open Go
variable {f:FuncId}{i t:Nat}{args:List AV}{K:Tm->List Blk->Prop}{d:Option Nat}{b:Bool}{v:AV}{tbl:List Nat}
section
variable {P:Program}{w0:World}{S0:SB}{E:Env}{L:List Blk}{w:World}{T:Tm}{a:Act}
theorem aiW{own:Nat}{s d:TypeId}{x:Operand}{A:Opd}{z:LOp}{c:Prop}{av:AV}{L':List Blk}(o:Rel w0 S0 E L w)(r:TR E T a)(p:bV x=some A)(h:EO P own s d A=some z)(b:au T L z=some (c,av,L'))(y:c):
  fj P w0 S0 E L' av w (do pure (.value (<- convert s d (a.eval x)))):=by
 unfold EO at h;split at h;rename_i j k i m;cases h;simp only[au]at b;split at b<;>try cases b
 rename_i q n f;exact(ahU o ⟨j,i⟩ m (ao p f r)).done;rename_i i m;cases h;simp only[au]at b;split at b<;>try cases b
 rename_i l f;exact(afE o i m (ao p f r) ⟨l,rfl⟩).done;rename_i e i m;split at h<;>try cases h
 rename_i g;simp only[au]at b;split at b<;>try cases b
 rename_i u B f;split at b<;>try cases b
 rename_i c' l n C;exact(aj5 o i g m (ao p f r) C y.1 y.2 (λt e=>B t e)).done
 .rename_i e i m;split at h<;>try cases h
  rename_i g
  repeat' split at h
  all_goals cases h
  simp only[au]at b;split at b<;>try cases b
  rename_i v f;exact(ahO o i m g (ao p f r)).done;simp only[au]at b;split at b<;>try cases b
  rename_i v f;exact(ahP o i m g (ao p f r)).done;simp only[au]at b;split at b<;>try cases b
  rename_i v f;exact(aj2 o i m g (ao p f r)).done
 simp_all
theorem agN{xs:List Operand}{a:List Opd}(h:oY xs=some a):a.length=xs.length/\∀(i:Nat) (y:Opd),a[i]?=some y->∃x,xs[i]?=some x/\bV x=some y:=by
 induction xs generalizing a with
 |nil=>simp[oY]at h;subst h;simp
 | cons x xs ih =>
   simp only[oY,ase]at h;rcases h1:bV x with _|y
   .simp_all
   .rcases h2:xs.mapM bV with _|b
    .simp_all
    .have:=ih (by simpa[oY]using h2)
     grind
theorem akB{xs:List Operand}{y:Opd}(h:oY xs=some [y]):∃x,xs=[x]/\bV x=some y:=by
 have:=agN h
 match xs,this with
 | [x],⟨_,h2⟩ =>
   obtain⟨z,a,h4⟩:=h2 0 y asQ
   grind
theorem aeF{xs:List Operand}{y z:Opd}(h:oY xs=some [y,z]):∃u v,xs=[u,v]/\bV u=some y/\bV v=some z:=by
 have:=agN h
 match xs,this with
 | [u,v],⟨_,h2⟩ =>
   obtain⟨p,a,h4⟩:=h2 0 y asQ;obtain⟨q,c,b⟩:=h2 1 z asQ
   grind
theorem ali{own:Nat}{t:TypeId}{y:Opd}{xs:List Operand}{ty:TypeId}{cs:Array Bool}{D:LOp}{c:Prop}{av:AV}{L':List Blk}(C:Rel w0 S0 E L w)(u:TR E T a)(F:oY xs=some [y])(m:dI P own .len [t] [y]=some D)(j:au T L D=some (c,av,L')):fj P w0 S0 E L' av w (builtin .len ⟨[t]⟩ ty cs ⟨xs.map a.eval⟩):=by
 obtain⟨x,rfl,l⟩:=akB F;have i:∀(n:Int),(Builtin.len_ #[t] ty #[a.eval x]).run P w=.ok (.int .i64 n) w->fj P w0 S0 E L (.int .i64 n) w (builtin .len ⟨[t]⟩ ty cs ⟨[x].map a.eval⟩):=λn h=>.same C (v:=.int .i64 n) (by simp[builtin,h]) (by simp[VR])
 simp only[dI]at m;split at m;rename_i k;cases m;simp only[au]at j;split at j<;>try cases j
 rename_i s o;have g:=ao l o u;simp only[VR]at g;have B:(ByteArray.mk ⟨s⟩).size=s.length:=rfl;exact i _ (by simp only[Builtin.len_,arI,aqm,apA,run_underlying k,apE,g,goInt,B,ap7])
 .rename_i e k;cases m;simp only[au]at j;split at j<;>try cases j
  all_goals rename_i o;have g:=ao l o u
  simp only[VR]at g;exact i _ (by simp[Builtin.len_,run_underlying k,g,goInt]);obtain⟨_,_,g,_⟩:=g;exact i _ (by simp[Builtin.len_,run_underlying k,g,goInt]);obtain⟨_,_,g,_⟩:=g;exact i _ (by simp[Builtin.len_,run_underlying k,g,goInt]);obtain⟨_,_,g⟩:=g.lsl_shape;exact i _ (by simp[Builtin.len_,run_underlying k,g,goInt])
 rename_i n e k;cases m;obtain⟨rfl,rfl,rfl⟩:=j;exact i _ (by simp[Builtin.len_,run_underlying k,goInt])
 .rename_i kt et k;cases m;simp only[au]at j;split at j<;>try cases j
  all_goals rename_i o;have g:=ao l o u
  simp only[VR]at g;exact i _ (by simp[Builtin.len_,run_underlying k,g,goInt]);split at j<;>try cases j
  rename_i es ck H;obtain⟨d,z,g⟩:=g;obtain⟨J,rs,g1,I,g3⟩:=C.blk _ _ H;rw[z]at g1;cases g1;have r:∀{es:List (AV×AV×Nat)}{rs:List MapEntry},aI E es rs->rs.length=es.length:=by
   intro es;induction es with
   |nil=>intro rs h;simp only[aI]at h;subst h;rfl
   |cons p es ih=>intro rs h;obtain⟨q,y,b⟩:=p;obtain⟨f,s,rfl,_,_,_,g4⟩:=h;simp[ih g4]
  have G:(getObj d.blk).run P w=.ok (.map rs ck) w:=(by simp[getObj,Sem.run,I]);have A:rs.size=es.length:=(by rw[<- r g3];simp);exact i _ (by simp[Builtin.len_,run_underlying k,g,goInt,G,A])
 simp_all
theorem alk{own:Nat}{t:TypeId}{y:Opd}{xs:List Operand}{ty:TypeId}{cs:Array Bool}{l:LOp}{c:Prop}{av:AV}{L':List Blk}(m:Rel w0 S0 E L w)(q:TR E T a)(o:oY xs=some [y])(i:dI P own .cap [t] [y]=some l)(f:au T L l=some (c,av,L')):fj P w0 S0 E L' av w (builtin .cap ⟨[t]⟩ ty cs ⟨xs.map a.eval⟩):=by
 obtain⟨x,rfl,k⟩:=akB o;have b:∀(n:Int),(Builtin.cap_ #[t] ty #[a.eval x]).run P w=.ok (.int .i64 n) w->fj P w0 S0 E L (.int .i64 n) w (builtin .cap ⟨[t]⟩ ty cs ⟨[x].map a.eval⟩):=λn h=>.same m (v:=.int .i64 n) (by simp[builtin,h]) (by simp[VR])
 simp only[dI]at i;split at i
 .rename_i e g;cases i;simp only[au]at f;split at f<;>try cases f
  all_goals rename_i p;have d:=ao k p q;simp only[VR]at d
  exact b _ (by simp[Builtin.cap_,run_underlying g,d,goInt]);obtain⟨_,_,d,_,j,_⟩:=d;exact b _ (by simp[Builtin.cap_,run_underlying g,d,goInt,j _ rfl]);obtain⟨_,_,_,_,d,_,_,j,_⟩:=d;exact b _ (by simp[Builtin.cap_,run_underlying g,d,goInt,j _ rfl])
 rename_i n e g;cases i;simp only[au,evX,apN,apu,apI]at f;obtain⟨rfl,rfl,rfl⟩:=f;exact b _ (by simp[Builtin.cap_,run_underlying g,goInt]);simp_all
theorem adr{own:Nat}{b:Builtin}{ts:List TypeId}{xs:List Operand}{Y:List Opd}{ty:TypeId}{cs:Array Bool}{U:LOp}{c:Prop}{av:AV}{L':List Blk}(x:Rel w0 S0 E L w)(g:TR E T a)(C:oY xs=some Y)(f:dI P own b ts Y=some U)(d:au T L U=some (c,av,L'))(D:c)(X:b=.delete->fj P w0 S0 E L' av w (builtin b ⟨ts⟩ ty cs ⟨xs.map a.eval⟩)):fj P w0 S0 E L' av w (builtin b ⟨ts⟩ ty cs ⟨xs.map a.eval⟩):=by
 have K:=f;unfold dI at f;split at f;exact ali x g C K d;exact alk x g C K d;rename_i t t' y z;obtain⟨u,v,rfl,j,A⟩:=aeF C;have key:∀e s B H,P.underlying t=some (.slice e)->((∃Z,P.underlying t'=some (.slice Z))\/P.underlying t'=some .string)->dt P e=some s->aaD P e=some B->zOf P e=some H->H.length=s->U=.app own s B H y z ->
   fj P w0 S0 E L' av w (builtin .append ⟨[t,t']⟩ ty cs ⟨[u,v].map a.eval⟩):=λe s B H R V G h4 I F W=>by
  subst W;simp only[au]at d;split at d<;>try cases d
  rename_i p q h r;exact(aj6 x R V G h4 I F (ao j h g) (ao A r g) d D).done
 split at f
 grind
 grind
 rename_i e q R V;split at f<;>try cases f
 rename_i s B H G h4 I;split at f<;>try cases f
 rename_i F;simp only[au]at d;split at d<;>try cases d
 rename_i i off m cp s2 q2 k h r;split at d<;>try cases d
 rename_i l J;split at d<;>try cases d
 rename_i o;subst o;exact(ahX x R V G h4 I F (ao j h g) (ao A r g) J D).done;simp_all;rename_i t t' y z;obtain⟨u,v,rfl,j,A⟩:=aeF C;split at f<;>try cases f
 rename_i e O;rcases hs:dt P e with _|s;simp_all;simp only[hs,apN,apu]at f;subst f;simp only[au]at d;rcases r:evX T z with _|q;simp_all;simp only[r,aqF]at d;split at d;rename_i c' Q n h S;obtain⟨rfl,rfl,rfl⟩:=d;exact((abO x O hs (ao j h g) (ao A r g) S D).1 rfl).done;rename_i i off m cap s' c' Q n h S;split at d<;>try cases d
 rename_i l J;split at d<;>try cases d
 rename_i o;subst o;exact((abO x O hs (ao j h g) (ao A r g) S D.1).2 _ _ _ _ _ rfl J D.2.1 D.2.2).done;simp_all;rename_i t y;obtain⟨u,rfl,j⟩:=akB C;split at f<;>try cases f
 rename_i e O;split at f<;>try cases f
 rename_i s H G I;split at f<;>try cases f
 rename_i F;simp only[au]at d;split at d<;>try cases d
 rename_i h;exact((ZZ x O G I F (ao j h g)).1 rfl).done;rename_i i off m cap s' h;split at d<;>try cases d
 rename_i l J;split at d<;>try cases d
 rename_i o;subst o;exact((ZZ x O G I F (ao j h g)).2 _ _ _ _ _ rfl J D).done;simp[*];rename_i y z;obtain⟨u,v,rfl,j,A⟩:=aeF C;cases f;simp only[au]at d;split at d<;>try cases d
 rename_i k m k' n h r;have M:=ao j h g;have N:=ao A r g;simp only[VR]at M N;refine .same x (v:=.int k (if n>m then n else m)) ?_ (by simp[VR]);simp[builtin,Builtin.max_,Builtin.max2,M,N];rename_i y z;obtain⟨u,v,rfl,j,A⟩:=aeF C;cases f;simp only[au]at d;split at d<;>try cases d
 rename_i k m k' n h r;have M:=ao j h g;have N:=ao A r g;simp only[VR]at M N;refine .same x (v:=.int k (if n<m then n else m)) ?_ (by simp[VR]);simp[builtin,Builtin.min_,Builtin.min2,M,N];simp_all
end
open Go Go.MapKept
section
variable {P:Program}{w0:World}{S0:SB}{E:Env}{L:List Blk}{w:World}{T:Tm}{a:Act}
def l5.desc:l5->TypeDesc->Prop
 |.int,d=>∃k,d=.int k
 |.str,d=>d=.string
 |.bool,d=>d=.bool
 |.st _,_=>False
def l5.flat:l5->Bool
 |.st _=>false
 |_=>true
theorem Yb{c:TypeId}{kd:l5}(h:gZ P c=some kd)(b:kd.flat=true):∃d,P.underlying c=some d/\kd.desc d:=by
 unfold gZ at h;split at h<;>try simp only[apu,reduceCtorEq]at h
 rename_i k a;subst h;exact⟨_,a,k,rfl⟩;rename_i a;subst h;exact⟨_,a,rfl⟩;rename_i a;subst h;exact⟨_,a,rfl⟩;split at h;simp only[ap6]at h;obtain⟨_,_,rfl⟩:=h;cases b;cases h
theorem abK{kd:l5}{d:TypeDesc}{k q:AV}{u v:Value}{b:Bool}(c:kd.desc d)(f:kd.flat=true)(j:bT kd k=true)(g:VR E k u)(i:VR E q v)(h:J3 k q=some b):Instr.sameNow d u v=some b:=by
 cases kd<;>try (cases f;done)
 all_goals cases k<;>simp only[bT,apL]at j<;>cases q<;>simp only[J3,reduceCtorEq]at h<;>simp only[VR]at g i<;>subst g<;>subst i<;>simp only[l5.desc]at c
 obtain⟨k,rfl⟩:=c;split at h<;>simp only[apu,reduceCtorEq]at h;rename_i e;subst e;subst h;simp only[Instr.sameNow,if_true];rfl;subst c;simp only[apu]at h;subst h;simp only[Instr.sameNow,apu];rename_i a b;by_cases e:a=b;subst e;simp[bytes_beq];simp only[e,decide_false];rcases h':(({data:={toList:=a}}:ByteArray) == {data:={toList:=b}})with _|_;rfl;have:=(bytes_beq _ _).1 h';simp_all;subst c;simp only[apu]at h;subst h;rfl
theorem ahG{kd:l5}{f:TypeId}{d:TypeDesc}{k:AV}{u:Value}(b:P.underlying f=some d)(a:kd.desc d)(g:bT kd k=true)(c:VR E k u)(e:Bool)(n:Nat):(Instr.checkKey e (n+1) f u).run P w=.ok () w:=by
 unfold Instr.checkKey;cases kd<;>try (exact a.elim)
 all_goals cases k<;>simp only[bT,apL]at g<;>simp only[VR]at c<;>subst c<;>simp only[l5.desc]at a
 obtain⟨k,rfl⟩:=a;simp[apA,run_underlying b,Result.andThen];subst a;simp[apA,run_underlying b,Result.andThen];subst a;simp[apA,run_underlying b,Result.andThen]
theorem ajK{kd:l5}{k q:AV}{u v:Value}(a:kd.flat=true)(d:bT kd k=true)(b:VR E k u)(c:VR E q v)(h:J3 k q=some true)(n:Nat):Instr.sameBits n v u=true:=by
 cases kd<;>try (cases a;done)
 all_goals cases k<;>simp only[bT,apL]at d<;>cases q<;>simp only[J3,reduceCtorEq]at h<;>simp only[VR]at b c<;>subst b<;>subst c
 split at h<;>simp only[apu,reduceCtorEq,decide_eq_true_eq]at h;rename_i e;subst e;subst h;simp[Instr.sameBits];simp only[apu,decide_eq_true_eq]at h;subst h;simp[Instr.sameBits,bytes_beq];simp only[apu,decide_eq_true_eq]at h;subst h;simp[Instr.sameBits]
theorem ZM{kd:l5}{d:TypeDesc}{k:AV}{u:Value}(n:kd.desc d)(a:kd.flat=true)(o:bT kd k=true)(f:VR E k u):∀{es:List (AV×AV×Nat)}{rs:List MapEntry}{i:Nat}{r:Option (Nat×AV)},aI E es rs->dH k es i=some r ->
  match r with
  |none=>Instr.findNow d u rs i=some none
  |some (j,x)=>∃c e q b,j=i+c/\Instr.findNow d u rs i=some (some (i+c,e.val))/\rs[c]?=some e/\es[c]?=some (q,x,b)/\VR E x e.val/\VR E q e.key/\J3 k q=some true
 |[],rs,i,r,hm,h=>by simp only[aI]at hm;subst hm;simp only[dH,apu]at h;subst h;rfl
 | (q,x,b)::l,rs,i,r,hm,h=>by
   obtain⟨e,t,rfl,g,A,C,h4⟩:=hm;simp only[dH]at h;split at h
   .rename_i hq;simp only[apu]at h;subst h;have:=abK n a o f g hq;exact⟨0,e,q,b,rfl,by simp[Instr.findNow,this],rfl,rfl,A,g,hq⟩
   .rename_i hq;have s:=abK n a o f g hq;have m:=ZM n a o f h4 h;cases r with
    |none=>simp only at m⊢;simp[Instr.findNow,s,m]
    | some p =>
      obtain⟨j,y⟩:=p;obtain⟨c,v,w,z,rfl,g1,B,g3,g4⟩:=m;exact⟨c+1,v,w,z,asP,by simp[Instr.findNow,s,g1];omega,by simpa using B,by simpa using g3,g4⟩
   .cases h
theorem amd{t:TypeId}{k:Fu}(h:afl P t=some k)(e:Bool)(n:Nat)(v:Value)(w:World):(Instr.checkKey e (n+1) t v).run P w=.ok () w:=by unfold Instr.checkKey;rcases WD h with⟨_,q,a⟩|⟨_,a⟩|⟨_,a⟩<;>simp[apA,run_underlying a,Result.andThen]
theorem aks{c:TypeId}{ks:List Fu}{a:Array Field}{cs:Array Value}(o:P.underlying c=some (.struct a))(p:OA P 0 a.toList ks)(r:ks.length<=cs.size)(e:Bool)(n:Nat)(w:World):
  (Instr.checkKey e (n+2) c (.agg cs)).run P w=.ok () w:=by
 have key:∀ (l:List Field) (ks:List Fu) (i:Nat),OA P i l ks->i+ks.length<=cs.size->∀ (body:Field->PUnit->Sem (ForInStep PUnit)),(∀ f u,body f u=if f.name ≠ "_" then (do let x <- part f.type cs f.offset;Instr.checkKey e (n+1) f.type x;pure (ForInStep.yield PUnit.unit)) else pure (ForInStep.yield PUnit.unit))->(forIn l PUnit.unit body).run P w=.ok PUnit.unit w:=by
  intro l;induction l with
  |nil=>intro ks i _ _ body _;simp
  | cons f l ih =>
    intro ks i h q body g;cases ks with
    |nil=>simp[OA]at h
    | cons k ks =>
      obtain⟨d,m,b,h4⟩:=h;simp only[apC]at q;obtain⟨v,j⟩:∃v,cs[i]?=some v:=⟨_,aqp asP⟩;rw[List.forIn_cons,g,if_pos m,d];simp only[apA,afe b j,amd b,apE,ap7]
      grind
 unfold Instr.checkKey;simp only[apA,run_underlying o,apE];have:=key a.toList ks 0 p asP _ (λf u=>rfl);simp_all
theorem Yj{c:TypeId}{ks:List Fu}{v:Array Field}(k:P.underlying c=some (.struct v))(o:P.stoodInHeld c=false)(n:OA P 0 v.toList ks){l:List AV}{u:Value}(m:th ks l=true)(d:VR E (.agg l) u)(w:World):∀{es:List (AV×AV×Nat)}{rs:List MapEntry}{i:Nat}{r:Option (Nat×AV)},aI E es rs->dH (.agg l) es i=some r ->
  match r with
  |none=>(Instr.findAsking c u rs i).run P w=.ok none w
  |some (j,x)=>∃a e q b,j=i+a/\(Instr.findAsking c u rs i).run P w=.ok (some (i+a,e.val)) w/\rs[a]?=some e/\es[a]?=some (q,x,b)/\VR E x e.val/\VR E q e.key/\J3 (.agg l) q=some true
 |[],rs,i,r,hm,h=>by simp only[aI]at hm;subst hm;simp only[dH,apu]at h;subst h;rfl
 | (q,x,b)::es,rs,i,r,hm,h=>by
   obtain⟨e,t,rfl,f,D,F,h4⟩:=hm;simp only[dH]at h;split at h
   .rename_i hq;simp only[apu]at h;subst h;have:=Z8 k o n m d f hq w;exact⟨0,e,q,b,rfl,by simp[Instr.findAsking,this],rfl,rfl,D,f,hq⟩
   .rename_i hq;have s:=Z8 k o n m d f hq w;have g:=Yj k o n m d w h4 h;cases r with
    |none=>simp only at g⊢;simp[Instr.findAsking,s,g]
    | some p =>
      obtain⟨j,y⟩:=p;obtain⟨a,z,B,C,rfl,g1,A,g3,g4⟩:=g;exact⟨a+1,z,B,C,asP,by simp[Instr.findAsking,s,g1];omega,by simpa using A,by simpa using g3,g4⟩
   .cases h
theorem aky:∀{l m:List AV}{us vs:List Value}{ks:List Fu}(n:Nat),th ks l=true->VRL E l us->VRL E m vs->JW l m=some true->us.length=vs.length/\((vs.zip us).all λ(x,y)=>Instr.sameBits n x y)=true
 | [],m,us,vs,ks,n,hp,hl,hm,hq=>by
   cases m with
   |cons b m=>simp[JW]at hq
   |nil=>simp only[VRL]at hl hm;subst hl;subst hm;simp
 | a::l,m,us,vs,ks,n,hp,hl,hm,hq=>by
   cases m with
   |nil=>simp[JW]at hq
   | cons b m =>
     cases ks with
     |nil=>simp[th]at hp
     | cons k ks =>
       simp only[th,apw]at hp;obtain⟨u,o,rfl,h,d⟩:=hl;obtain⟨v,i,rfl,g,f⟩:=hm;simp only[JW]at hq;cases hk:ZR a b with
       |none=>rw[hk]at hq;cases hq
       | some c =>
         rw[hk]at hq;cases c with
         |false=>simp at hq
         | true =>
           obtain⟨j,i2⟩:=aky n hp.2 d f hq;refine⟨by simp[j],?_⟩;simp only[List.zip_cons_cons,aqE,i2,arJ];cases a<;>cases b<;>simp only[ZR,reduceCtorEq]at hk<;>simp only[VR]at h g<;>subst h<;>subst g
           .simp only[apu,decide_eq_true_eq]at hk;subst hk;simp[Instr.sameBits]
           .split at hk<;>simp only[apu,reduceCtorEq,decide_eq_true_eq]at hk;rename_i e;subst e;subst hk;simp[Instr.sameBits]
           .simp only[apu,decide_eq_true_eq]at hk;subst hk;simp[Instr.sameBits,bytes_beq]
theorem nA{kd:l5}{i:TypeId}{k:AV}{u:Value}(a:gZ P i=some kd)(c:bT kd k=true)(g:VR E k u)(e:Bool):(Instr.checkKey e 10000 i u).run P w=.ok () w:=by
 cases hfl:kd.flat with
 | true =>
   obtain⟨d,f,h⟩:=Yb a hfl;exact ahG f h c g e 9999
 | false =>
   cases kd<;>simp only[l5.flat,reduceCtorEq]at hfl;obtain⟨l,f,h,j⟩:=WE a;cases k<;>simp only[bT,apL]at c;obtain⟨us,rfl,b⟩:=g;exact aks f j (by rw[abz c];simp[b.length]) e 9998 w
theorem ahH{kd:l5}{k q:AV}{u v:Value}(b:bT kd k=true)(d:VR E k u)(e:VR E q v)(h:J3 k q=some true):Instr.sameBits 10000 v u=true:=by
 cases hfl:kd.flat with
 |true=>exact ajK hfl b d e h 10000
 | false =>
   cases kd<;>simp only[l5.flat,reduceCtorEq]at hfl;cases k<;>simp only[bT,apL]at b;cases q<;>simp only[J3,reduceCtorEq]at h;obtain⟨us,rfl,c⟩:=d;obtain⟨vs,rfl,a⟩:=e;obtain⟨f,i2⟩:=aky 9999 b c a h;simp only[Instr.sameBits,i2,arJ];simp[f]
theorem Ej{kd:l5}{c:TypeId}{k:AV}{u:Value}(f:gZ P c=some kd)(i:bT kd k=true)(m:VR E k u){es:List (AV×AV×Nat)}{rs:List MapEntry}{r:Option (Nat×AV)}(n:aI E es rs)(h:dH k es 0=some r)(w:World):
  match r with
  |none=>(Instr.findKey c u rs).run P w=.ok none w
  |some (j,x)=>∃e q b,(Instr.findKey c u rs).run P w=.ok (some (j,e.val)) w/\rs[j]?=some e/\es[j]?=some (q,x,b)/\VR E x e.val/\VR E q e.key/\J3 k q=some true:=by
 cases hfl:kd.flat with
 | true =>
   obtain⟨d,a,g⟩:=Yb f hfl;have l:=ZM g hfl i m n h;cases r with
   |none=>exact run_findKey a l
   | some p =>
     obtain⟨j,x⟩:=p;obtain⟨v,e,q,b,rfl,g1,t,g3,g4⟩:=l;exact⟨e,q,b,by have:=run_findKey (P:=P) (w:=w) a g1;exact this,by simpa using t,by simpa using g3,g4⟩
 | false =>
   cases kd<;>simp only[l5.flat,reduceCtorEq]at hfl;obtain⟨y,a,g,o⟩:=WE f;cases k<;>simp only[bT,apL]at i;have l:=Yj a g o i m w n h;have s:(Instr.findKey c u rs).run P w=(Instr.findAsking c u rs 0).run P w:=by
    simp only[Instr.findKey,apA,run_underlying a,apE];cases rs with
    |nil=>simp[Instr.findNow,Instr.findAsking]
    |cons e rs=>simp[Instr.findNow,Instr.sameNow]
   grind
theorem afH{t b a:TypeId}(c:Rel w0 S0 E L w)(d:P.underlying t=some (.map b a)):dA P w0 S0 E (L++[.map [] 0]) (.lmap L.length) w (Instr.makeMap t none):=by have:=c.push (.map #[] 0) (.map [] 0) ⟨w.heap.size,0,0⟩ rfl rfl ⟨⟨w.heap.size,0,0⟩,#[],asQ,asQ,rfl⟩;refine⟨_,.map (some w.heap.size),_,?_,this.1,?_,this.2⟩;rfl;simp only[VR];simp
theorem adf{t:TypeId}{a:AV}(h:ais P t=some a):∃v,(∀w,(zeroValue t).run P w=.ok v w)/\VR E a v:=by unfold ais at h;simp only[aq3]at h;obtain⟨v,⟨i,d,c⟩,b⟩:=h;exact⟨v,λw=>by simp[zeroValue,typeInfo,d,c],ZN b⟩
theorem YW(b:Rel w0 S0 E L w){i:Nat}{es:List (AV×AV×Nat)}{ck:Nat}{u:Value}(d:L[i]?=some (.map es ck))(a:VR E (.lmap i) u):
  ∃c rs,E.loc i=some c/\u=.map (some c.blk)/\w.heap[c.blk]?=some (.map rs ck)/\aI E es rs.toList:=by
 simp only[VR]at a;obtain⟨c',rs,g,f,e⟩:=b.blk i _ d;simp_all
theorem afI{t b f:TypeId}{kd:l5}{z k:AV}{u v:Value}(ok:Bool)(m:Rel w0 S0 E L w)(n:P.underlying t=some (.map b f))(a:gZ P b=some kd)(o:ais P f=some z)(h:VR E .nilmap u)(i:bT kd k=true)(g:VR E k v):
  dA P w0 S0 E L (if ok then .tup [z,.bool false]else z) w (Instr.lookup t u v ok):=by
 simp only[VR]at h;subst h;obtain⟨d,j,h4⟩:=adf (E:=E) o;have l:∀e,(Instr.checkKey e 10000 b v).run P w=.ok () w:=λe=>nA a i g e
 have c:(Instr.findKey b v []).run P w=.ok none w:=Ej (E:=E) (es:=[]) (r:=none) a i g (by simp[aI]) (by simp[dH]) w;refine .same m (v:=if ok then .tuple #[d,.bool false]else d) ?_ ?_
 .simp[Instr.lookup,run_underlying n,l,c,j]
  try (cases ok<;>rfl)
 cases ok;simp[*];simp only[if_true,VR];exact⟨[d,.bool false],rfl,by simp[VRL,VR,h4]⟩
theorem ahR{t h o:TypeId}{kd:l5}{z k av:AV}{u v:Value}{i ck:Nat}{es:List (AV×AV×Nat)}{r:Option (Nat×AV)}(ok:Bool)(l:Rel w0 S0 E L w)(A:P.underlying t=some (.map h o))(g:gZ P h=some kd)(G:ais P o=some z)(I:L[i]?=some (.map es ck))(J:VR E (.lmap i) u)(B:bT kd k=true)(s:VR E k v)(F:dH k es 0=some r)(d:av=match r with|some (_,x)=>if ok then .tup [x,.bool true]else x|none=>if ok then .tup [z,.bool false]else z):
  dA P w0 S0 E L av w (Instr.lookup t u v ok):=by
 obtain⟨c,rs,K,rfl,D,n⟩:=YW l I J;obtain⟨m,H,h4⟩:=adf (E:=E) G;have f:∀e,(Instr.checkKey e 10000 h v).run P w=.ok () w:=λe=>nA g B s e
 have y:(getObj c.blk).run P w=.ok (.map rs ck) w:=by simp[getObj,Sem.run,D]
 have C:=Ej g B s n F w;cases r with
 | none =>
   subst d;have a:(Instr.findKey h v rs.toList).run P w=.ok none w:=C;refine .same l (v:=if ok then .tuple #[m,.bool false]else m) ?_ ?_
   .simp[Instr.lookup,run_underlying A,y,f,a,H]
    try (cases ok<;>rfl)
   .cases ok
    .simp[*]
    .simp only[if_true,VR];exact⟨[m,.bool false],rfl,by simp[VRL,VR,h4]⟩
 | some p =>
   obtain⟨j,x⟩:=p;subst d;obtain⟨e,q,b,a,M,g3,g4,_⟩:=C;refine .same l (v:=if ok then .tuple #[e.val,.bool true]else e.val) ?_ ?_
   .simp[Instr.lookup,run_underlying A,y,f,a]
    try (cases ok<;>rfl)
   .cases ok
    .simp[*]
    .simp only[if_true,VR];exact⟨[e.val,.bool true],rfl,by simp[VRL,VR,g4]⟩
theorem aI.app{es:List (AV×AV×Nat)}{k x:AV}{e:MapEntry}:∀{rs:List MapEntry},aI E es rs->VR E k e.key->VR E x e.val->aI E (es++[(k,x,e.born)]) (rs++[e]):=by
 induction es with
 |nil=>intro rs h a c;simp only[aI]at h;subst h;exact⟨e,[],rfl,a,c,rfl,rfl⟩
 | cons p es ih =>
   intro rs h a c;obtain⟨q,y,b⟩:=p;obtain⟨f,t,rfl,g1,d,g3,g4⟩:=h;exact⟨f,t++[e],rfl,g1,d,g3,ih g4 a c⟩
theorem aI.put{k x:AV}{u v:Value}(a:VR E k u)(c:VR E x v):∀{es:List (AV×AV×Nat)}{rs:List MapEntry}{j:Nat},aI E es rs->aI E (ajx k x es j) (rs.modify j λe=>{e with key:=u,val:=v})
 |[],rs,j,h=>by simp only[aI]at h;subst h;simp[ajx,aI]
 |(q,y,b)::es,rs,0,h=>by obtain⟨f,t,rfl,g1,d,g3,g4⟩:=h;exact⟨{f with key:=u,val:=v},t,rfl,a,c,g3,g4⟩
 |(q,y,b)::es,rs,j+1,h=>by obtain⟨f,t,rfl,g1,d,g3,g4⟩:=h;exact⟨f,t.modify j λe=>{e with key:=u,val:=v},asQ,g1,d,g3,aI.put a c (j:=j) g4⟩
theorem ahQ{t C R:TypeId}{kd:l5}{k x:AV}{u v y:Value}{i ck:Nat}{es:List (AV×AV×Nat)}{r:Option (Nat×AV)}(I:Rel w0 S0 E L w)(O:P.underlying t=some (.map C R))(s:gZ P C=some kd)(M:L[i]?=some (.map es ck))(V:VR E (.lmap i) u)(G:bT kd k=true)(l:VR E k v)(J:VR E x y)(T:dH k es 0=some r):∃w',(Instr.mapUpdate t u v y).run P w=.ok () w'/\Rel w0 S0 E (L.set i (match r with|some (j,_)=>.map (ajx k x es j) ck|none=>.map (es++[(k,x,ck)]) (ck+1))) w':=by
 obtain⟨c,rs,K,rfl,m,h⟩:=YW I M V;have n:∀e,(Instr.checkKey e 10000 C v).run P w=.ok () w:=λe=>nA s G l e
 have N:(getObj c.blk).run P w=.ok (.map rs ck) w:=by simp[getObj,Sem.run,m]
 have Q:=Ej s G l h T w;have H:c.blk<w.heap.size:=(aqh.1 m).1;have B:∀o,(setObj c.blk o).run P w=.ok () {w with heap:=w.heap.setIfInBounds c.blk o}:=λo=>by simp[setObj,Sem.run,m]
 have turn:∀d a f,aI E f (d:Array MapEntry).toList->Rel w0 S0 E (L.set i (.map f a)) {w with heap:=w.heap.setIfInBounds c.blk (.map d a)}:=λd a f D =>
  I.turn (w':={w with heap:=w.heap.setIfInBounds c.blk (.map d a)}) (k':=.map f a) M rfl K asQ (λb m=>by simp[arV,Ne.symm m]) rfl rfl rfl
   ⟨c,d,K,by simp[H],D⟩ (λ_ _ e=>by cases e)
 cases r with
 | none =>
   have g:(Instr.findKey C v rs.toList).run P w=.ok none w:=Q;refine⟨_,?_,turn (rs.push {key:=v,val:=y,born:=ck}) (ck+1) _ (by simpa using aI.app (e:={key:=v,val:=y,born:=ck}) h l J)⟩;simp[Instr.mapUpdate,run_underlying O,N,n,g,B]
 | some p =>
   obtain⟨j,z⟩:=p;obtain⟨e,q,b,g,W,g3,g4,S,U⟩:=Q;have F:(Instr.keyThatStays e.key v).run P w=.ok v w:=by simp[Instr.keyThatStays,ahH G l S U]
   have A:rs[j]?=some e:=(by simpa using W);refine⟨_,?_,turn (rs.modify j λe=>{e with key:=v,val:=y}) ck _ (by simpa using aI.put l J (j:=j) h)⟩;simp[Instr.mapUpdate,run_underlying O,N,n,g,A,F,B]
end
open Go Go.MapKept
section
variable {P:Program}{w0:World}{S0:SB}{E:Env}{L:List Blk}{w:World}{T:Tm}{a:Act}
theorem aI.filt{p:Nat->Bool}:∀{es:List (AV×AV×Nat)}{rs:List MapEntry},aI E es rs->aI E (es.filter λe=>p e.2.2) (rs.filter λe=>p e.born)
 |[],rs,h=>by simp only[aI]at h;subst h;rfl
 | (k,x,b)::es,rs,h=>by
   obtain⟨f,t,rfl,g1,c,g3,g4⟩:=h;have a:=aI.filt (p:=p) g4;subst g3;simp only[List.filter_cons];split
   .exact⟨f,_,rfl,g1,c,rfl,a⟩
   omega
theorem aI.all{p:Nat->Bool}:∀{es:List (AV×AV×Nat)}{rs:List MapEntry},aI E es rs->(rs.all λe=>p e.born)=es.all λe=>p e.2.2
 |[],rs,h=>by simp only[aI]at h;subst h;rfl
 |(k,x,b)::es,rs,h=>by obtain⟨f,t,rfl,g1,a,g3,g4⟩:=h;subst g3;simp only[aqE,aI.all (p:=p) g4]
theorem aI.nil_iff{es:List (AV×AV×Nat)}{rs:List MapEntry}(h:aI E es rs):rs.isEmpty=es.isEmpty:=by
 cases es with
 |nil=>simp only[aI]at h;subst h;rfl
 |cons p es=>obtain⟨k,x,b⟩:=p;obtain⟨f,t,rfl,_⟩:=h;rfl
theorem aI.len:∀{es:List (AV×AV×Nat)}{rs:List MapEntry},aI E es rs->rs.length=es.length
 |[],rs,h=>by simp only[aI]at h;subst h;rfl
 |(k,x,b)::es,rs,h=>by obtain⟨f,t,rfl,_,_,_,g4⟩:=h;simp[aI.len g4]
theorem acJ{t d b:TypeId}{v:Value}(e:Rel w0 S0 E L w)(c:P.underlying t=some (.map d b))(a:VR E .nilmap v):
  dA P w0 S0 E (L++[.miter none 0 [] 0]) (.ptr L.length 0) w (Instr.range t v):=by
 simp only[VR]at a;subst a;have:=e.push (.mapIter none 0 #[] 0) (.miter none 0 [] 0) ⟨w.heap.size,0,0⟩ rfl rfl ⟨⟨w.heap.size,0,0⟩,none,asQ,asQ,rfl,rfl⟩;refine⟨_,.pointer (some ⟨w.heap.size,0,none⟩),_,?_,this.1,?_,this.2⟩;simp[Instr.range,run_underlying c];simp only[VR];exact⟨⟨w.heap.size,0,0⟩,asQ,rfl⟩
theorem aef{t e d:TypeId}{v:Value}{i ck:Nat}{es:List (AV×AV×Nat)}(a:Rel w0 S0 E L w)(k:P.underlying t=some (.map e d))(b:L[i]?=some (.map es ck))(g:VR E (.lmap i) v):
  dA P w0 S0 E (L++[.miter (some i) ck [] ck]) (.ptr L.length 0) w (Instr.range t v):=by
 obtain⟨c,rs,h,rfl,f,m⟩:=YW a b g;have l:i<L.length:=(aps.1 b).1;have:=a.push (.mapIter (some c.blk) ck #[] ck) (.miter (some i) ck [] ck) ⟨w.heap.size,0,0⟩ rfl rfl ⟨⟨w.heap.size,0,0⟩,some c.blk,asQ,asQ,rfl,c,by simp only;rw[if_neg asP];exact h,rfl⟩;refine⟨_,.pointer (some ⟨w.heap.size,0,none⟩),_,?_,this.1,?_,this.2⟩;have j:(getObj c.blk).run P w=.ok (.map rs ck) w:=by simp[getObj,Sem.run,f]
 simp[Instr.range,run_underlying k,j];simp only[VR];exact⟨⟨w.heap.size,0,0⟩,asQ,rfl⟩
theorem afG{t:TypeId}{v:Value}{i j ck a last:Nat}{seen:List Nat}{es:List (AV×AV×Nat)}{r:Option (AV×AV×Nat)}(A:Rel w0 S0 E L w)(N:L[i]?=some (.miter (some j) a seen last))(T:L[j]?=some (.map es ck))(S:VR E (.ptr i 0) v)(y:ajw es a seen last=some r):
  dA P w0 S0 E (abD L i j a seen ck r) (V0 r) w (Instr.next v false t):=by
 obtain⟨c,F,rfl⟩:=S;obtain⟨c',q,K,J,M,d,h4,rfl⟩:=A.blk i _ N;rw[F]at K;cases K;obtain⟨d',rs,g1,X,g3⟩:=A.blk j _ T;rw[h4]at g1;cases g1;have I:c.blk<w.heap.size:=(aqh.1 J).1;have O:(getObj c.blk).run P w=.ok (.mapIter (some d.blk) a ⟨seen⟩ last) w:=by simp[getObj,Sem.run,J]
 have z:(getObj d.blk).run P w=.ok (.map rs ck) w:=by simp[getObj,Sem.run,X]
 have G:∀o,(setObj c.blk o).run P w=.ok () {w with heap:=w.heap.setIfInBounds c.blk o}:=λo=>by simp[setObj,Sem.run,J]
 rw[M];unfold ajw at y;split at y;simp_all;rename_i B;have g:(!(⟨seen⟩:Array Nat).isEmpty && !rs.isEmpty&&rs.all λe=>decide (e.born≥last))=false:=by
  have Y:rs.isEmpty=es.isEmpty:=(by rw[<- g3.nil_iff];simp);have Z:(rs.all λe=>decide (e.born≥last))=es.all λe=>decide (last<=e.2.2):=by rw[<- aI.all (p:=λb=>decide (last<=b)) g3];simp
  simp[*]
 have u:=aI.filt (p:=λb => !seen.contains b) g3;have m:=aI.filt (p:=λb=>decide (b<a)) u;have n:=aI.filt (p:=λb=>decide (a<=b)) u;have C:∀p:MapEntry->Bool,(rs.filter λe => !(⟨seen⟩:Array Nat).contains e.born).filter p=⟨(rs.toList.filter λe => !seen.contains e.born).filter p⟩:=λp=>by apply Array.toList_inj.1;simp
 split at y;rename_i H D;simp only[apu]at y;subst y;rw[H]at m;rw[D]at n;refine .same A (v:=.tuple #[.bool false]) ?_ (by simp[V0,VR,VRL]);have l:((rs.filter λe => !(⟨seen⟩:Array Nat).contains e.born).filter λe=>decide (e.born<a))=#[]:=by rw[C,m]
 have h:((rs.filter λe => !(⟨seen⟩:Array Nat).contains e.born).filter λe=>decide (e.born≥a))=#[]:=by rw[C];exact congrArg Array.mk n
 simp only[Instr.next,apA,O,z,apE,g,apL,if_false,l,h];simp[Question.forced];rename_i e H D;simp only[apu]at y;subst y;rw[H]at m;rw[D]at n;obtain⟨k,x,b⟩:=e;obtain⟨f,s,W,Q,U,V,rfl⟩:=m;subst V;have l:((rs.filter λe => !(⟨seen⟩:Array Nat).contains e.born).filter λe=>decide (e.born<a))=#[f]:=by rw[C,W]
 have h:((rs.filter λe => !(⟨seen⟩:Array Nat).contains e.born).filter λe=>decide (e.born≥a))=#[]:=by rw[C];exact congrArg Array.mk n
 have turn:=A.turn (w':={w with heap:=w.heap.setIfInBounds c.blk (.mapIter (some d.blk) a ((⟨seen⟩:Array Nat).push f.born) ck)}) (k':=.miter (some j) a (seen++[f.born]) ck) N rfl F asQ (λb R=>by simp[arV,Ne.symm R]) rfl rfl rfl
  ⟨c,some d.blk,F,by simp[I],M,d,h4,rfl⟩ (λ_ _ e=>by cases e)
 refine⟨E,.tuple #[.bool true,f.key,f.val],_,?_,.refl E,?_,turn⟩;simp only[Instr.next,apA,O,z,apE,g,apL,if_false,l,h];simp[Question.forced,G];exact⟨[.bool true,f.key,f.val],rfl,.bool true,[f.key,f.val],rfl,rfl,f.key,[f.val],rfl,Q,f.val,[],rfl,U,rfl⟩;cases y
theorem aeg{t:TypeId}{v:Value}{i a last:Nat}{seen:List Nat}(b:Rel w0 S0 E L w)(h:L[i]?=some (.miter none a seen last))(e:VR E (.ptr i 0) v):
  dA P w0 S0 E L (.tup [.bool false]) w (Instr.next v false t):=by
 obtain⟨c,g,rfl⟩:=e;obtain⟨c',q,d,k,f,h4⟩:=b.blk i _ h;rw[g]at d;cases d;simp only[MIt]at h4;subst h4;have j:(getObj c.blk).run P w=.ok (.mapIter none a ⟨seen⟩ last) w:=by simp[getObj,Sem.run,k]
 rw[f];exact .same b (v:=.tuple #[.bool false]) (by simp[Instr.next,j]) (by simp[VR,VRL])
theorem aI.fnd{b:Nat}:∀{es:List (AV×AV×Nat)}{rs:List MapEntry}{e:AV×AV×Nat},aI E es rs->es.find? (λe=>Nat.beq e.2.2 b)=some e->∃f,rs.find? (λe=>e.born == b)=some f/\VR E e.1 f.key/\VR E e.2.1 f.val
 |[],rs,e,h,he=>by simp at he
 | (k,x,c)::es,rs,e,h,he=>by
   obtain⟨f,t,rfl,g1,d,g3,g4⟩:=h;subst g3;simp only[ars]at he⊢;have a:(f.born == b)=Nat.beq f.born b:=by
    cases hh:Nat.beq f.born b with
    |true=>rw[Nat.eq_of_beq_eq_true hh];simp
    | false =>
      have:f.born≠b:=λe=>by rw[e,Nat.beq_refl]at hh;cases hh
      simp[*]
   rw[a];split at he
   .grind
   .rename_i hb;exact aI.fnd g4 he
theorem aeh{v:Value}{i j ck g a:Nat}{seen:List Nat}{es:List (AV×AV×Nat)}{e:AV×AV×Nat}(l:Rel w0 S0 E L w)(t:L[i]?=some (.miter (some j) g seen a))(y:L[j]?=some (.map es ck))(r:VR E (.ptr i 0) v)(k:mat es ck seen a=some e):dA P w0 S0 E L (.tup [e.1,e.2.1]) w (Instr.entry v):=by
 obtain⟨c,B,rfl⟩:=r;obtain⟨c',q,p,u,z,d,h4,rfl⟩:=l.blk i _ t;rw[B]at p;cases p;obtain⟨G,rs,g1,F,g3⟩:=l.blk j _ y;rw[h4]at g1;cases g1;have C:(getObj c.blk).run P w=.ok (.mapIter (some d.blk) g ⟨seen⟩ a) w:=by simp[getObj,Sem.run,u]
 have n:(getObj d.blk).run P w=.ok (.map rs ck) w:=by simp[getObj,Sem.run,F]
 unfold mat at k;split at k;rename_i b o;split at k;rename_i m;obtain⟨f,x,A,s⟩:=aI.fnd g3 k;have h:(⟨seen⟩:Array Nat).back?=some b:=by rw[List.getLast?_eq_getElem?]at o;simpa[Array.back?]using o
 have D:rs.find? (λe=>e.born == b)=some f:=by rw[<- x];simp
 rw[z];refine .same l (v:=.tuple #[f.key,f.val]) ?_ (by simp only[VR,VRL];exact⟨[f.key,f.val],rfl,f.key,[f.val],rfl,A,f.val,[],rfl,s,rfl⟩);simp[Instr.entry,C,n,h,m,D];simp_all;simp_all
theorem aI.del:∀{es:List (AV×AV×Nat)}{rs:List MapEntry}{j:Nat},aI E es rs->aI E (es.eraseIdx j) (rs.eraseIdx j)
 |[],rs,j,h=>by simp only[aI]at h;subst h;simp[aI]
 |(k,x,b)::es,rs,0,h=>by obtain⟨f,t,rfl,_,_,_,g4⟩:=h;simpa using g4
 |(k,x,b)::es,rs,j+1,h=>by obtain⟨f,t,rfl,g1,a,g3,g4⟩:=h;exact⟨f,t.eraseIdx j,asQ,g1,a,g3,aI.del g4⟩
theorem ahS{t x K t' ty:TypeId}{kd:l5}{k:AV}{u v:Value}{i ck:Nat}{cs:Array Bool}{es:List (AV×AV×Nat)}{r:Option (Nat×AV)}(B:Rel w0 S0 E L w)(I:P.underlying t=some (.map x K))(n:gZ P x=some kd)(G:L[i]?=some (.map es ck))(N:VR E (.lmap i) u)(F:bT kd k=true)(C:VR E k v)(M:dH k es 0=some r):∃w',(builtin .delete ⟨[t,t']⟩ ty cs ⟨[u,v]⟩).run P w=.ok (.value (.tuple #[])) w'/\Rel w0 S0 E (L.set i (match r with|some (j,_)=>.map (es.eraseIdx j) ck|none=>.map es ck)) w':=by
 obtain⟨c,rs,D,rfl,l,h⟩:=YW B G N;have m:∀e,(Instr.checkKey e 10000 x v).run P w=.ok () w:=λe=>nA n F C e
 have H:(getObj c.blk).run P w=.ok (.map rs ck) w:=by simp[getObj,Sem.run,l]
 have J:=Ej n F C h M w;have A:c.blk<w.heap.size:=(aqh.1 l).1;have s:∀o,(setObj c.blk o).run P w=.ok () {w with heap:=w.heap.setIfInBounds c.blk o}:=λo=>by simp[setObj,Sem.run,l]
 have turn:∀d a f,aI E f (d:Array MapEntry).toList->Rel w0 S0 E (L.set i (.map f a)) {w with heap:=w.heap.setIfInBounds c.blk (.map d a)}:=λd a f y =>
  B.turn (w':={w with heap:=w.heap.setIfInBounds c.blk (.map d a)}) (k':=.map f a) G rfl D asQ (λb l=>by simp[arV,Ne.symm l]) rfl rfl rfl
   ⟨c,d,D,by simp[A],y⟩ (λ_ _ e=>by cases e)
 cases r with
 | none =>
   have g:(Instr.findKey x v rs.toList).run P w=.ok none w:=J;refine⟨_,?_,turn rs ck es h⟩;simp[builtin,Builtin.delete_,run_underlying I,H,m,g,s]
 | some p =>
   obtain⟨j,z⟩:=p;obtain⟨e,q,b,g,R,g3,g4,O,Q⟩:=J;refine⟨_,?_,turn (rs.eraseIdxIfInBounds j) ck (es.eraseIdx j) (by simpa using aI.del h)⟩;simp[builtin,Builtin.delete_,run_underlying I,H,m,g,s]
theorem afJ{t c f t' ty:TypeId}{kd:l5}{k:AV}{u v:Value}{cs:Array Bool}(j:Rel w0 S0 E L w)(g:P.underlying t=some (.map c f))(b:gZ P c=some kd)(d:VR E .nilmap u)(i:bT kd k=true)(h:VR E k v):
  (builtin .delete ⟨[t,t']⟩ ty cs ⟨[u,v]⟩).run P w=.ok (.value (.tuple #[])) w:=by
 simp only[VR]at d;subst d;have a:∀e,(Instr.checkKey e 10000 c v).run P w=.ok () w:=λe=>nA b i h e
 simp[builtin,Builtin.delete_,run_underlying g,a]
theorem alj{own:Nat}{ts:List TypeId}{xs:List Operand}{z:List Opd}{ty:TypeId}{cs:Array Bool}{p:LOp}{c:Prop}{av:AV}{L':List Blk}(h:Rel w0 S0 E L w)(f:TR E T a)(A:oY xs=some z)(d:dI P own .delete ts z=some p)(b:au T L p=some (c,av,L')):fj P w0 S0 E L' av w (builtin .delete ⟨ts⟩ ty cs ⟨xs.map a.eval⟩):=by
 unfold dI at d;split at d<;>try (rename_i D;cases D)
 rename_i t t' m k _;obtain⟨x,y,rfl,u,q⟩:=aeF A;split at d<;>try cases d
 rename_i B H s;rcases h4:gZ P B with _|kd<;>simp[h4]at d;subst d;simp only[au]at b;split at b<;>try cases b
 rename_i C o g;split at b<;>cases b;rename_i n;exact .same h (v:=.tuple #[]) (afJ h s h4 (ao u o f) n (ao q g f)) (by simp[VR,VRL]);rename_i i C o g;split at b<;>try cases b
 rename_i es ck F;split at b<;>try cases b
 rename_i n;have go:=λr e=>ahS (P:=P) (t':=t') (ty:=ty) (cs:=cs) (r:=r) h s h4 F (ao u o f) n (ao q g f) e
 split at b<;>cases b;rename_i j G e;obtain⟨w',g1,l⟩:=go _ e;exact⟨E,.tuple #[],w',.inl g1,.refl E,by simp[VR,VRL],l⟩;rename_i e;obtain⟨w',g1,l⟩:=go _ e;exact⟨E,.tuple #[],w',.inl g1,.refl E,by simp[VR,VRL],l⟩;simp_all
end
section
variable {P:Program}{w0:World}{S0:SB}{E:Env}{L:List Blk}{w:World}{T:Tm}{a:Act}
def LOp.isCall:LOp->Bool
 |.call _ _|.callv _ _=>true
 |_=>false
set_option maxHeartbeats 1000000 in
theorem acU{own:Nat}{o:Oper}{lo:LOp}{c:Prop}{av:AV}{L':List Blk}(hR:Rel w0 S0 E L w)(hT:TR E T a)(hl:kk P own o.op=some lo)(hnc:lo.isCall=false)(he:au T L lo=some (c,av,L'))(hc:c):
  fj P w0 S0 E L' av w (execOp a.eval o):=by
 obtain⟨dst,op,ty,pos,after,guard⟩:=o;cases op<;>simp only[kk]at hl<;>try cases hl
 case move x =>
  show fj P w0 S0 E L' av w (pure (.value (a.eval x)));rcases h1:bV x with _|y<;>simp[h1]at hl;subst hl;simp only[au]at he;rcases h2:evX T y with _|u<;>simp only[h2,aqb,apN,reduceCtorEq,apu,apI]at he;obtain⟨rfl,rfl,rfl⟩:=he;exact .same hR rfl (ao h1 h2 hT)
 case assign x =>
  show fj P w0 S0 E L' av w (pure (.value (a.eval x)));rcases h1:bV x with _|y<;>simp[h1]at hl;subst hl;simp only[au]at he;rcases h2:evX T y with _|u<;>simp only[h2,aqb,apN,reduceCtorEq,apu,apI]at he;obtain⟨rfl,rfl,rfl⟩:=he;exact .same hR rfl (ao h1 h2 hT)
 case pick x y z =>
  show fj P w0 S0 E L' av w (do pure (.value (if <- asBool (a.eval x)then a.eval y else a.eval z)));split at hl<;>try cases hl
  rename_i x' y' z' h1 h2 h3;simp only[au]at he;split at he<;>try cases he
  all_goals
   rename_i h4;have hx:=ao h1 h4 hT;simp only[VR]at hx
  .rcases h5:evX T y' with _|u<;>simp only[h5,aqb,apN,reduceCtorEq,apu,apI]at he;obtain⟨rfl,rfl,rfl⟩:=he;exact .same hR (by simp[hx,asBool]) (ao h2 h5 hT)
  .rcases h5:evX T z' with _|u<;>simp only[h5,aqb,apN,reduceCtorEq,apu,apI]at he;obtain⟨rfl,rfl,rfl⟩:=he;exact .same hR (by simp[hx,asBool]) (ao h3 h5 hT)
 case alloc t =>
  show fj P w0 S0 E L' av w (do pure (.value (<- Instr.alloc t true (.tuple #[]))));rcases h1:zOf P t with _|z<;>simp[h1]at hl;subst hl;simp only[au,apu,apI]at he;obtain⟨rfl,rfl,rfl⟩:=he;exact(afM hR h1).done
 case box t x =>
  show fj P w0 S0 E L' av w (do pure (.value (<- Instr.box t (a.eval x))));rcases h1:bV x with _|y<;>simp[h1]at hl;subst hl;simp only[au]at he;rcases h2:evX T y with _|u
  .simp[h2]at he
  .simp only[h2,aqF]at he;rcases h3:u.cells? with _|l<;>simp only[h3,reduceCtorEq,apu,apI]at he;obtain⟨rfl,rfl,rfl⟩:=he;exact(Yf hR (rE h3 (ao h1 h2 hT))).done
 case build t ps =>
  show fj P w0 S0 E L' av w (do pure (.value (<- Instr.build t (ps.map λ(i,x)=>(i,a.eval x)))));have hps:(ps.map λ(i,x)=>(i,a.eval x))=⟨ps.toList.map λ(i,x)=>(i,a.eval x)⟩:=(by apply Array.ext';simp);rw[hps];split at hl<;>try cases hl
  rename_i d z hd hz;split at hl<;>try cases hl
  .rename_i fs;split at hl<;>try cases hl
   rename_i hk;rcases hm:iC P (.struct fs) ps.toList with _|m<;>simp only[hm,aqb,apN,reduceCtorEq,apu]at hl;subst hl;simp only[au]at he;rcases hf:lP T z m with _|l<;>simp only[hf,aqb,apN,reduceCtorEq,apu,apI]at he;obtain⟨rfl,rfl,rfl⟩:=he;exact(aei hT hR hd hz hk hm hf).done
  .rename_i n e;split at hl<;>try cases hl
   rename_i hs;rcases hm:iC P (.array n e) ps.toList with _|m<;>simp only[hm,aqb,apN,reduceCtorEq,apu]at hl;subst hl;simp only[au]at he;rcases hf:lP T z m with _|l<;>simp only[hf,aqb,apN,reduceCtorEq,apu,apI]at he;obtain⟨rfl,rfl,rfl⟩:=he;exact(aej hT hR hd hz hm hs hf).done
 case buildSlice t n ps =>
  show fj P w0 S0 E L' av w (do pure (.value (<- Instr.buildSlice t n (ps.map λ(i,x)=>(i,a.eval x)))));have hps:(ps.map λ(i,x)=>(i,a.eval x))=⟨ps.toList.map λ(i,x)=>(i,a.eval x)⟩:=(by apply Array.ext';simp);rw[hps];split at hl<;>try cases hl
  rename_i e hd;split at hl<;>try cases hl
  rename_i s z m hs hz hm;split at hl<;>try cases hl
  rename_i hk;simp only[au]at he;rcases hf:lP T (gq z n) m with _|l<;>simp only[hf,reduceCtorEq]at he;have:=aek (own:=own == 2) hT hR hd hs hz hk.1 hk.2 hm hf;split at he<;>simp only[apu,apI]at he<;>obtain⟨rfl,rfl,rfl⟩:=he
  .rename_i ho;rw[if_pos ho]at this;exact this.done
  .rename_i ho;rw[if_neg ho]at this;exact this.done
 case load t x =>
  split at hl<;>try cases hl
  rename_i g s y h1 h2 h3;exact aiV hR hT h1 h2 h3 he hc
 case store t x y =>
  split at hl<;>try cases hl
  rename_i s p q h1 h2 h3;exact aha hR hT h1 h2 h3 he hc
 case nilCheck x =>
  rcases h1:bV x with _|y<;>simp[h1]at hl;subst hl;simp only[au]at he;split at he<;>try cases he
  all_goals
   rename_i h2;have hx:=kl hR h1 h2 hT
  .have hx':=hx;obtain⟨p,hp⟩:=hx'.ptr_shape;exact .same hR (by simp[execOp,hp]) hx
  .have hx':=hx;obtain⟨p,hp⟩:=hx'.iptr_shape;exact .same hR (by simp[execOp,hp]) hx
  .have hx':=hx;obtain⟨p,hp⟩:=hx'.iface_shape;exact .same hR (by simp[execOp,hp]) hx
  .have hx':=hx;obtain⟨p,hp⟩:=hx'.func_shape;exact .same hR (by simp[execOp,hp]) hx
 case binOp op t x y u=>exact alm (u:=u) hR hT hl he hc
 case unOp op t x =>
  show fj P w0 S0 E L' av w (do pure (.value (<- Op.unary op (a.eval x))));rcases h1:bV x with _|y<;>simp[h1]at hl;subst hl;simp only[au]at he;split at he<;>try cases he
  rename_i u h2;rcases h3:un op u with _|r<;>simp only[h3,aqb,apN,reduceCtorEq,apu,apI]at he;obtain⟨rfl,rfl,rfl⟩:=he;exact(al2 hR (ao h1 h2 hT) h3).done
 case convert s d x =>
  rcases h1:bV x with _|y
  .simp[h1]at hl
  .simp only[h1,aqF]at hl;exact aiW hR hT h1 hl he hc
 case makeInterface t x =>
  show fj P w0 S0 E L' av w (do pure (.value (<- Instr.makeInterface t (a.eval x))));split at hl<;>try cases hl
  rename_i d hni hd;rcases h1:bV x with _|y<;>simp only[h1,aqb,apN,reduceCtorEq,apu]at hl;subst hl;simp only[au]at he;rcases h2:evX T y with _|u<;>simp only[h2,aqb,apN,reduceCtorEq,apu,apI]at he;obtain⟨rfl,rfl,rfl⟩:=he;refine .same hR (v:=.iface t (a.eval x)) ?_ ⟨_,rfl,ao h1 h2 hT⟩;simp only[Instr.makeInterface,apA,run_underlying hd,apE];cases d<;>first|rfl|exact absurd hd (hni _)
 case makeFunc fn first caps =>
  show fj P w0 S0 E L' av w (do pure (.value (<- Instr.makeFunc fn (first.map a.eval) (caps.map a.eval))));split at hl<;>try cases hl
  rename_i f;split at hl<;>try cases hl
  rename_i hfirst;rcases h1:oY caps.toList with _|ys<;>simp only[h1,aqb,apN,reduceCtorEq,apu]at hl;subst hl;simp only[au]at he;rcases h2:je T ys with _|l<;>simp only[h2,aqb,apN,reduceCtorEq,apu,apI]at he;obtain⟨rfl,rfl,rfl⟩:=he;have hf:first=#[]:=by simpa using hfirst
  subst hf;refine .same hR (v:=.func (.func f) #[] (caps.map a.eval)) (by simp[Instr.makeFunc]) ⟨caps.toList.map a.eval,?_,tu h1 h2 hT⟩;congr 1;apply Array.ext';simp
 case makeSlice t l c' =>
  show fj P w0 S0 E L' av w (do pure (.value (<- Instr.makeSlice t (a.eval l) (a.eval c'))));split at hl<;>try cases hl
  rename_i e hd;split at hl<;>try cases hl
  rename_i s b z l' c'' hs hb hz h1 h2;split at hl<;>try cases hl
  rename_i hk;simp only[au]at he;split at he<;>try cases he
  rename_i k1 n k2 m h3 h4;have e1:=ao h1 h3 hT;have e2:=ao h2 h4 hT;simp only[VR]at e1 e2;rw[e1,e2];exact(acK hR hd hs hb hz hk.1 hc.1 hc.2.1 hc.2.2.1 hc.2.2.2).done
 case slice t x lo' hi mx =>
  split at hl<;>try cases hl
  .rename_i x' lo'' hi' hd h1 h2 h3 h4;have hmx:mx=none:=by
    cases mx with
    |none=>rfl
    |some m=>simp[wa]at h4
   subst hmx;show fj P w0 S0 E L' av w (do pure (.value (<- Instr.sliceAt t (a.eval x) (lo'.map a.eval) (hi.map a.eval) none)));simp only[au]at he;split at he<;>try cases he
   rename_i s r1 r2 h5 h6 h7;exact(aj1 hR hd (ao h1 h5 hT) (eE hT h2 h6) (eE hT h3 h7) hc.1 hc.2.1 hc.2.2).done
  .rename_i e x' lo'' hi' mx' hd h1 h2 h3 h4;rcases hs:dt P e with _|s<;>simp only[hs,aqb,apN,reduceCtorEq,apu]at hl;subst hl;exact alg hR hT hd hs h1 h2 h3 h4 he hc
  .rename_i n e x' lo'' hi' hd h1 h2 h3 h4;rcases hs:dt P e with _|s<;>simp only[hs,aqb,apN,reduceCtorEq,apu]at hl;subst hl;have hmx:mx=none:=by
    cases mx with
    |none=>rfl
    |some m=>simp[wa]at h4
   subst hmx;exact alh hR hT hd hs h1 h2 h3 he hc
 case fieldAddr t x f =>
  split at hl<;>try cases hl
  rename_i fs x' hd h1;split at hl<;>try cases hl
  rename_i fd hf;split at hl<;>try cases hl
  rename_i hz;exact ahd hR hT hd hf hz h1 he
 case field t x f =>
  split at hl<;>try cases hl
  rename_i fs x' hd h1;split at hl<;>try cases hl
  rename_i fd hf;split at hl<;>try cases hl
  rename_i g s hg hs;exact ahc hR hT hd hf hg hs h1 he hc
 case indexAddr t x i =>
  split at hl<;>try cases hl
  .rename_i e x' i' hd h1 h2;rcases hs:dt P e with _|s<;>simp only[hs,aqb,apN,reduceCtorEq,apu]at hl;subst hl;exact ahb hR hT hd hs h1 h2 he hc
  .rename_i n e x' i' hd h1 h2;rcases hs:dt P e with _|s<;>simp only[hs,aqb,apN,reduceCtorEq,apu]at hl;subst hl;exact ae4 hR hT hd hs h1 h2 he hc
 case index t x i =>
  show fj P w0 S0 E L' av w (do pure (.value (<- Instr.index t (a.eval x) (a.eval i))));split at hl<;>try cases hl
  rename_i x' i' hd h1 h2;simp only[au]at he;split at he<;>try cases he
  rename_i s k n h3 h4;have e2:=ao h2 h4 hT;simp only[VR]at e2;rw[e2];exact(ahT hR hd (ao h1 h3 hT) hc.1 hc.2).done
 case extract x i =>
  show fj P w0 S0 E L' av w (do pure (.value (<- Instr.extract (a.eval x) i)));rcases h1:bV x with _|y<;>simp[h1]at hl;subst hl;simp only[au]at he;split at he<;>try cases he
  rename_i l h2;rcases h3:l[i]? with _|u<;>simp only[h3,aqb,apN,reduceCtorEq,apu,apI]at he;obtain⟨rfl,rfl,rfl⟩:=he;exact(acL hR (ao h1 h2 hT) h3).done
 case makeMap t r =>
  show fj P w0 S0 E L' av w (do pure (.value (<- Instr.makeMap t (r.map a.eval))));cases r with
  |some x=>simp at hl
  | none =>
    simp only at hl;split at hl<;>try cases hl
    rename_i kt et hd;simp only[au,apu,apI]at he;obtain⟨rfl,rfl,rfl⟩:=he;exact(afH hR hd).done
 case lookup t m k ok =>
  show fj P w0 S0 E L' av w (do pure (.value (<- Instr.lookup t (a.eval m) (a.eval k) ok)));split at hl<;>try cases hl
  rename_i kt et m' k' hd h1 h2;split at hl<;>try cases hl
  rename_i kd z h3 h4;simp only[au]at he;split at he<;>try cases he
  .rename_i kv h5 h6;split at he<;>cases he;rename_i hf;exact(afI ok hR hd h3 h4 (ao h1 h5 hT) hf (ao h2 h6 hT)).done
  .rename_i i kv h5 h6;split at he<;>try cases he
   rename_i es ck h7;split at he<;>try cases he
   rename_i hf;have go:=λr av hm hav=>(ahR (P:=P) (r:=r) (av:=av) ok hR hd h3 h4 h7 (ao h1 h5 hT) hf (ao h2 h6 hT) hm hav).done
   split at he<;>cases he
   .rename_i j v hm;exact go _ _ hm rfl
   .rename_i hm;exact go _ _ hm rfl
 case mapUpdate t m k v =>
  show fj P w0 S0 E L' av w (do Instr.mapUpdate t (a.eval m) (a.eval k) (a.eval v);pure .skip);split at hl<;>try cases hl
  rename_i kt et m' k' v' hd h1 h2 h3;rcases h4:gZ P kt with _|kd<;>simp[h4]at hl;subst hl;simp only[au]at he;split at he<;>try cases he
  rename_i i kv x h5 h6 h7;split at he<;>try cases he
  rename_i es ck h8;split at he<;>try cases he
  rename_i hf;have go:=λr hm=>ahQ (P:=P) (r:=r) hR hd h4 h8 (ao h1 h5 hT) hf (ao h2 h6 hT) (ao h3 h7 hT) hm
  split at he<;>cases he
  .rename_i j y hm;obtain⟨w',g1,g2⟩:=go _ hm;exact⟨E,undef,w',.inr ⟨by simp[g1],rfl⟩,.refl E,by simp[VR],g2⟩
  .rename_i hm;obtain⟨w',g1,g2⟩:=go _ hm;exact⟨E,undef,w',.inr ⟨by simp[g1],rfl⟩,.refl E,by simp[VR],g2⟩
 case range t x =>
  show fj P w0 S0 E L' av w (do pure (.value (<- Instr.range t (a.eval x))));split at hl<;>try cases hl
  .rename_i hd;rcases h1:bV x with _|y<;>simp[h1]at hl;subst hl;simp only[au]at he;split at he<;>try cases he
   rename_i s h2;exact(aee hR hd (ao h1 h2 hT)).done
  .rename_i kt et hd;rcases h1:bV x with _|y<;>simp[h1]at hl;subst hl;simp only[au]at he;split at he<;>try cases he
   .rename_i h2;exact(acJ hR hd (ao h1 h2 hT)).done
   .rename_i i h2;split at he<;>cases he;rename_i es ck h3;exact(aef hR hd h3 (ao h1 h2 hT)).done
 case entry x =>
  show fj P w0 S0 E L' av w (do pure (.value (<- Instr.entry (a.eval x))));rcases h1:bV x with _|y<;>simp[h1]at hl;subst hl;simp only[au]at he;split at he<;>try cases he
  rename_i i h2;split at he<;>try cases he
  rename_i j since seen st h3;split at he<;>try cases he
  rename_i es ck h4;split at he<;>cases he;rename_i e h5;exact(aeh hR h3 h4 (ao h1 h2 hT) h5).done
 case next x isS =>
  show fj P w0 S0 E L' av w (do pure (.value (<- Instr.next (a.eval x) isS ty)));by_cases hS:isS=true
  case neg =>
   rw[if_neg hS]at hl;have hS':isS=false:=(by simpa using hS);subst hS';rcases h1:bV x with _|y<;>simp[h1]at hl;subst hl;simp only[au]at he;split at he<;>try cases he
   rename_i i h2;split at he<;>try cases he
   .rename_i h3;exact(aeg hR h3 (ao h1 h2 hT)).done
   .rename_i j since seen last h3;split at he<;>try cases he
    rename_i es ck h4;split at he<;>cases he;rename_i r h5;exact(afG hR h3 h4 (ao h1 h2 hT) h5).done
  rw[if_pos hS]at hl;subst hS;rcases h1:bV x with _|y<;>simp[h1]at hl;subst hl;simp only[au]at he;split at he<;>try cases he
  rename_i i h2;split at he<;>try cases he
  rename_i s p h3;have key:=afF (P:=P) (t:=ty) hR h3 (ao h1 h2 hT);split at he<;>cases he
  .rename_i hp;rw[if_pos hp,if_pos hp]at key;exact key.done
  .rename_i hp;rw[if_neg hp,if_neg hp]at key;exact key.done
 case call c' =>
  obtain⟨callee,args,ats⟩:=c';split at hl<;>try cases hl
  rename_i xs hx;split at hl<;>try cases hl
  .simp[LOp.isCall]at hnc
  .rename_i x _ _;rcases h1:bV x with _|y<;>simp only[h1,aqb,apN,reduceCtorEq,apu]at hl;subst hl;simp[LOp.isCall]at hnc
  .rename_i b hb;simp only at hb hx hl;subst hb;have:execOp a.eval {dst,op:=.call {callee:=.builtin b,args,argTypes:=ats},type:=ty,pos,after,guard}=builtin b ⟨ats.toList⟩ ty (args.map λ|.const _=>true|_=>false) ⟨args.toList.map a.eval⟩:=by simp only[execOp,resolve,pure_bind,invoke];congr 1;apply Array.ext';simp
   rw[this];exact adr hR hT hx hl he hc λe=>by subst e;exact alj hR hT hx hl he
end
structure aw where
 dst:Option Nat
 op:LOp
 guard:Option (Nat×Bool)
 deriving Inhabited
def dj(dst:Option Nat)(v:AV)(T:Tm):Tm :=
 match dst with
 |some d=>(d,v)::T
 |none=>T
def gR(r:Option Nat):Fence:={fn:=λ_=>True,depth:=none,alive:=false,round:=r}
theorem aal{P:Program}{args:Array Value}{w:World}{R:Ending->World->Prop}(r:Option Nat)(n:Nat)(h:Calls P f args w R):CallsIn (gR r) n P f args w R:=by have a:CallsIn Fence.wide n P f args w R:=callsIn_wide.2 h;cases r<;>exact a
theorem adz{P:Program}{n l:Nat}{tmps:Array Value}{ca cb:Code}{w:World}{R:Ending->World->Prop}(r:Option Nat)(h:RoundIn (gR none) n P l f tmps ca cb w R):RoundIn (gR r) n P l f tmps ca cb w R:=by cases r<;>exact h
def abi(P:Program)(i:Nat)(args:List AV)(L:List Blk)(Q:AV->List Blk->Prop):Prop :=
 ∀(w0:World) (S0:SB) (E:Env) (w:World) (vs:List Value),Rel w0 S0 E L w->VRL E args vs->∀c,E.loc i=some c ->
  ∃fn tmps ca cb,(Instr.yield c.blk ⟨vs⟩).run P w=.ok (.round c.blk fn tmps ca cb) w/\RoundIn (gR none) 0 P c.blk fn tmps ca cb w λe w'=>∃E' v av L',e=.returned v/\E.le E'/\Q av L'/\VR E' av v/\Rel w0 S0 E' L' w'
theorem abi.mono{P:Program}{L:List Blk}{Q f:AV->List Blk->Prop}(h:abi P i args L Q)(m:∀av L',Q av L'->f av L'):abi P i args L f:=by intro w0 S0 E w vs j l c g;obtain⟨fn,tmps,ca,cb,k,n⟩:=h w0 S0 E w vs j l c g;exact⟨fn,tmps,ca,cb,k,n.mono λe w' ⟨E',v,av,L',a,b,c,d⟩=>⟨E',v,av,L',a,b,m _ _ c,d⟩⟩
def af(P:Program)(f:FuncId)(args:List AV)(L:List Blk)(Q:AV->List Blk->Prop):Prop :=
 ∀(w0:World) (S0:SB) (E:Env) (w:World) (vs:List Value),Rel w0 S0 E L w->VRL E args vs ->
  ((callFunc f ⟨vs⟩).run P w=.ok (.enter f ⟨vs⟩) w/\Calls P f ⟨vs⟩ w λe w'=>∃E' v av L',e=.returned v/\E.le E'/\Q av L'/\VR E' av v/\Rel w0 S0 E' L' w') \/
  (∃E' v av L' w',(callFunc f ⟨vs⟩).run P w=.ok (.value v) w'/\E.le E'/\Q av L'/\VR E' av v/\Rel w0 S0 E' L' w')
theorem af.mono{P:Program}{L:List Blk}{Q g:AV->List Blk->Prop}(h:af P f args L Q)(m:∀av L',Q av L'->g av L'):af P f args L g:=by
 intro w0 S0 E w vs k l;rcases h w0 S0 E w vs k l with⟨i,j⟩|⟨E',v,av,L',w',i,j,n,h4⟩;exact .inl ⟨i,j.mono λe w' ⟨E',v,av,L',a,b,c,d⟩=>⟨E',v,av,L',a,b,m _ _ c,d⟩⟩
 grind
def Res(K:Tm->List Blk->Prop)(d:Option Nat)(T:Tm):Option (Prop×AV×List Blk)->Prop
 |some (c,av,L')=>c/\K (dj d av T) L'
 |none=>False
theorem akI{T:Tm}{c:Prop}{av:AV}{L':List Blk}:Res K d T (some (c,av,L'))=(c/\K (dj d av T) L'):=rfl
def Kon(K:Tm->List Blk->Prop)(d:Option Nat)(T:Tm):AV->List Blk->Prop:=λav L'=>K (dj d av T) L'
def Cal(P:Program)(f:FuncId)(K:Tm->List Blk->Prop)(d:Option Nat)(T:Tm)(L:List Blk):Option (List AV)->Prop
 |some args=>af P f args L (Kon K d T)
 |none=>False
theorem akQ{P:Program}{T:Tm}{L:List Blk}:Cal P f K d T L (some args)=af P f args L (Kon K d T):=rfl
def aip(P:Program)(K:Tm->List Blk->Prop)(d:Option Nat)(T:Tm)(L:List Blk):Option AV->Option (List AV)->Prop
 |some (.func g caps),some args=>af P g (args++caps) L (Kon K d T)
 |some (.yld i),some args=>abi P i args L (Kon K d T)
 |_,_=>False
theorem aaV{P:Program}{T:Tm}{L:List Blk}:aip P K d T L (some (.yld i)) (some args)=abi P i args L (Kon K d T):=rfl
theorem aio{P:Program}{T:Tm}{L:List Blk}{g:FuncId}{caps:List AV}:aip P K d T L (some (.func g caps)) (some args)=af P g (args++caps) L (Kon K d T):=rfl
def AOp(P:Program)(o:aw)(K:Tm->List Blk->Prop)(T:Tm)(L:List Blk):Prop :=
 match o.op with
 |.call f xs=>Cal P f K o.dst T L (je T xs)
 |.callv f xs=>aip P K o.dst T L (evX T f) (je T xs)
 |lo=>Res K o.dst T (au T L lo)
def Grd(P:Program)(o:aw)(K:Tm->List Blk->Prop)(b:Bool)(T:Tm)(L:List Blk):Option AV->Prop
 |some (.bool x)=>if x=b then AOp P o K T L else K (dj o.dst (.tup []) T) L
 |some (.tup [])=>K (dj o.dst (.tup []) T) L
 |_=>False
theorem ED{P:Program}{o:aw}{x:Bool}{T:Tm}{L:List Blk}:Grd P o K b T L (some (.bool x))=if x=b then AOp P o K T L else K (dj o.dst (.tup []) T) L:=rfl
theorem ac9{P:Program}{o:aw}{T:Tm}{L:List Blk}:Grd P o K b T L (some (.tup []))=K (dj o.dst (.tup []) T) L:=rfl
def nG(P:Program)(K:Tm->List Blk->Prop):List aw->Tm->List Blk->Prop
 |[],T,L=>K T L
 | o::rest,T,L=>match o.guard with
   |none=>AOp P o (nG P K rest) T L
   |some (t,b)=>Grd P o (nG P K rest) b T L (ay T t)
theorem akU{P:Program}{T:Tm}{L:List Blk}:nG P K [] T L=K T L:=rfl
theorem aiq{P:Program}{op:LOp}{rest:List aw}{T:Tm}{L:List Blk}:nG P K (⟨d,op,none⟩::rest) T L=AOp P ⟨d,op,none⟩ (nG P K rest) T L:=rfl
theorem af9{P:Program}{op:LOp}{rest:List aw}{T:Tm}{L:List Blk}:nG P K (⟨d,op,some (t,b)⟩::rest) T L=Grd P ⟨d,op,some (t,b)⟩ (nG P K rest) b T L (ay T t):=rfl
def amQ(N:Nat):Option Nat->Bool
 |some d=>decide (d<N)
 |none=>true
def nJ(P:Program)(N:Nat)(own:Nat->Nat)(ops:Array Oper)(i:Nat):Option aw :=
 match ops[i]? with
 |none=>none
 | some o=>match (kk P (own i) o.op).getD .bad with
   | lo =>
     if amQ N o.dst=true then
      match o.guard with
      |none=>some ⟨o.dst,lo,none⟩
      | some (j,b)=>match (ops[j]?).bind (·.dst) with
        |some t=>if t<N then some ⟨o.dst,lo,some (t,b)⟩else none
        |none=>none
     else none
def cR(P:Program)(N:Nat)(own:Nat->Nat)(ops:Array Oper):List Nat->Option (List aw)
 |[]=>some []
 | i::l=>match nJ P N own ops i,cR P N own ops l with
   |some o,some m=>some (o::m)
   |_,_=>none
section
variable {P:Program}{w0:World}{S0:SB}{N:Nat}
theorem Zs(a:Act)(d:Option Nat)(v:Value):(a.put d v).tmps.size=a.tmps.size:=by cases d<;>simp[Act.put]
theorem SA(a:Act)(d:Option Nat)(v:Value):(a.put d v).defers=a.defers:=by cases d<;>simp[Act.put]
theorem TR.putT{E:Env}{T:Tm}{a:Act}{d:Option Nat}{x:AV}{v:Value}(r:TR E T a)(c:∀k,d=some k->k<a.tmps.size)(b:VR E x v):TR E (dj d x T) (a.put d v):=by
 cases d with
 |none=>exact r
 |some k=>exact r.put (c k rfl) b
def mkD(D:Nat):Deferred:={target:=.collected D,args:=#[]}
def aeP(w0:World)(S0:SB)(ds:List Deferred):Prop:=S0.B<=w0.heap.size/\ds.Nodup/\∀d∈ds,∃D,d=mkD D/\S0.B<=D/\D<w0.heap.size/\¬S0 D/\w0.heap[D]?=some (.deferred (some []))
theorem aeP.nil{w0:World}{S0:SB}(h:S0.B<=w0.heap.size):aeP w0 S0 []:=⟨h,List.nodup_nil,λ_ h=>by cases h⟩
def St(w0:World)(S0:SB)(N:Nat)(E:Env)(T:Tm)(L:List Blk)(a:Act)(w:World):Prop :=
 Rel w0 S0 E L w/\TR E T a/\a.tmps.size=N/\aeP w0 S0 a.defers
theorem afo{own:Nat}{s d:TypeId}{x:Opd}{a:LOp}(h:EO P own s d x=some a):a.isCall=false:=by
 unfold EO at h
 repeat' split at h
 all_goals (first|(cases h;rfl)|cases h)
theorem ahF{op:BinOp}{t:TypeId}{x y:Operand}{a:LOp}(h:SJ P op t x y=some a):a.isCall=false:=by
 unfold SJ at h
 repeat' split at h
 all_goals (first|(cases h;rfl)|cases h)
theorem aa2{own:Nat}{b:Builtin}{ts:List TypeId}{xs:List Opd}{a:LOp}(h:dI P own b ts xs=some a):a.isCall=false:=by
 unfold dI at h
 repeat' split at h
 all_goals (first|(cases h;rfl)|cases h|(simp only[ap6]at h;obtain⟨_,_,rfl⟩:=h;rfl))
theorem ajF{own:Nat}{op:Op}{lo:LOp}(h:kk P own op=some lo)(hc:∀c,op≠.call c):lo.isCall=false:=by
 cases op
 case makeMap t r =>
  cases r with
  |some x=>simp[kk]at h
  | none =>
    simp only[kk]at h;split at h<;>cases h;rfl
 all_goals (simp only[kk]at h;try (cases h;done))
 case call c=>exact absurd rfl (hc c)
 case binOp=>exact ahF h
 case convert x=>simp only[aq3]at h;obtain⟨_,_,h⟩:=h;exact afo h
 all_goals
  repeat' split at h
  all_goals (first|(cases h;rfl)|cases h|(simp only[ap6]at h;obtain⟨_,_,rfl⟩:=h;rfl))
theorem OS{own:Nat}{o:Oper}{lo:LOp}{gd:Option (Nat×Bool)}(hl':(kk P own o.op).getD .bad=lo)(hd:∀d,o.dst=some d->d<N){T:Tm}{L:List Blk}{E:Env}{a:Act}{w:World}{K:Tm->List Blk->Prop}(hst:St w0 S0 N E T L a w)(h:AOp P ⟨o.dst,lo,gd⟩ K T L){next:Act->World->Prop}{Q:Exit->Act->World->Prop}(hK:∀E' T' L' a' w',E.le E'->K T' L'->St w0 S0 N E' T' L' a' w'->next a' w'){r:Option Nat}:o.wpIn (gR r) 0 P a w next Q:=by
 have hl:kk P own o.op=some lo:=by rcases hq:kk P own o.op with _|x;rw[hq]at hl';simp only[arH]at hl';subst hl';exact h.elim;simp_all
 obtain⟨hR,hT,hN,hdf⟩:=hst;have hnd:∀c,o.op≠.defer c:=λc e=>by rw[e]at hl;simp[kk]at hl
 refine⟨λ_ _=>trivial,?_⟩;rw[Oper.semAt_plain _ _ _ hnd];have value:∀{E':Env}{v:Value}{av:AV}{L':List Blk}{w':World},E.le E'->VR E' av v->Rel w0 S0 E' L' w'->K (dj o.dst av T) L'->next (a.put o.dst v) w':=λ{E' v av L' w'} h1 h2 h3 h4 =>
  hK E' _ _ _ _ h1 h4 ⟨h3,(hT.mono h1).putT (λk hk=>by rw[hN];exact hd k hk) h2,by rw[Zs];exact hN,by rw[SA];exact hdf⟩
 have called:∀{f:FuncId}{vs:List Value}{args:List AV},((execOp a.eval o).run P w=(callFunc f ⟨vs⟩).run P w)->VRL E args vs->af P f args L (Kon K o.dst T)->o.uponIn (gR r) 0 P a next Q ((execOp a.eval o).run P w):=λ{f vs args} hrun hv hc=>by rw[hrun];rcases hc w0 S0 E w vs hR hv with⟨h1,h2⟩|⟨E',v,av,L',w',h1,h2,h3,h4,h5⟩;rw[h1,Oper.uponIn_enter];refine⟨λh=>(by cases h),(aal r _ h2).mono λe w' ⟨E',v,av,L',e1,h3,h4,h5,h6⟩=>?_⟩;subst e1;exact value h3 h5 h6 h4;rw[h1,Oper.uponIn_value];exact value h2 h4 h5 h3
 by_cases hcall:lo.isCall=true
 .obtain⟨d0,op,ty,pos,after,guard⟩:=o;by_cases hop:∃c,op=.call c
  .obtain⟨⟨callee,args,ats⟩,rfl⟩:=hop;simp only[kk]at hl;split at hl<;>try cases hl
   rename_i xs hx;split at hl<;>try cases hl
   rename_i f;simp only[AOp]at h;rcases hev:je T xs with _|l;rw[hev]at h;exact h.elim;rw[hev]at h;refine called (vs:=args.toList.map a.eval) ?_ (tu hx hev hT) h;rw[execOp_call_go];congr 2
   grind
   .rename_i x _;rcases h1:bV x with _|y<;>simp only[h1,aqb,apN,reduceCtorEq,apu]at hl;subst hl;simp only[AOp]at h;rcases hev:evX T y with _|u;rw[hev]at h;exact h.elim;rcases hevs:je T xs with _|l;rw[hev,hevs]at h;cases u<;>exact h.elim;rw[hev,hevs]at h;cases u<;>simp only[aip]at h
    case yld i =>
     have hx':=ao h1 hev hT;simp only[VR]at hx';obtain⟨c,hc,hfv⟩:=hx';have hrun:(execOp a.eval {dst:=d0,op:=.call {callee:=.value x,args,argTypes:=ats},type:=ty,pos,after,guard}).run P w=(Instr.yield c.blk (args.map a.eval)).run P w:=by simp only[execOp,resolve,hfv,Deferred.ofValue,pure_bind,invoke];simp
     have hargs:(⟨args.toList.map a.eval⟩:Array Value)=args.map a.eval:=(by apply Array.ext';simp);obtain⟨fn,tmps,ca,cb,k1,k2⟩:=h w0 S0 E w _ hR (tu hx hevs hT) c hc;rw[hrun,<- hargs,k1,Oper.uponIn_round];refine⟨λh=>(by cases h),(adz r k2).mono λe w' ⟨E',v,av,L',e1,h3,h4,h5,h6⟩=>?_⟩;subst e1;exact value h3 h5 h6 h4
    rename_i g caps;have hx':=ao h1 hev hT;simp only[VR]at hx';obtain⟨cs,hfv,hcs⟩:=hx';refine called (vs:=args.toList.map a.eval++cs) ?_ ((tu hx hevs hT).append hcs) h;have:execOp a.eval {dst:=d0,op:=.call {callee:=.value x,args,argTypes:=ats},type:=ty,pos,after,guard}=callFunc g (args.map a.eval++⟨cs⟩):=by simp only[execOp,resolve,hfv,Deferred.ofValue,pure_bind,invoke];simp
    rw[this];congr 2;simp
   rw[aa2 hl]at hcall;cases hcall
  rw[ajF hl (λc e=>hop ⟨c,e⟩)]at hcall;cases hcall
 have hcall:lo.isCall=false:=by simpa using hcall
 have h':Res K o.dst T (au T L lo):=by cases lo<;>simp only[LOp.isCall,aqN]at hcall<;>exact h
 rcases he:au T L lo with _|⟨c,av,L'⟩;rw[he]at h';exact h'.elim;rw[he]at h';obtain⟨E',v,w',h1,h2,h3,h4⟩:=acU hR hT hl hcall he h'.1;rcases h1 with h1|⟨h1,rfl⟩;rw[h1,Oper.uponIn_value];exact value h2 h3 h4 h'.2;rw[h1,Oper.uponIn_skip];exact value h2 h3 h4 h'.2
end
section
variable {P:Program}{w0:World}{S0:SB}{N:Nat}
theorem kz{E:Env}{T:Tm}{a:Act}{ops:Array Oper}{j t:Nat}(c:TR E T a)(g:(ops[j]?).bind (·.dst)=some t)(f:t<a.tmps.size):
  (∀x,ay T t=some (.bool x)->yielded ops a.tmps j=some x)/\(ay T t=some (.tup [])->yielded ops a.tmps j=none):=by
 refine⟨λx b=>?_,λb=>?_⟩;have:=c t _ b;simp only[VR]at this;unfold yielded;simp_all;have:=c t _ b;obtain⟨vs,e,d⟩:=this;unfold yielded;simp_all
theorem jc{own:Nat->Nat}{ops:Array Oper}{i:Nat}{a:aw}(h:nJ P N own ops i=some a):
  ∃o,ops[i]?=some o/\(kk P (own i) o.op).getD .bad=a.op/\o.dst=a.dst/\(∀d,o.dst=some d->d<N) /\
   ((o.guard=none/\a.guard=none)\/∃j b t,o.guard=some (j,b)/\(ops[j]?).bind (·.dst)=some t/\t<N/\a.guard=some (t,b)):=by
 unfold nJ at h;split at h;cases h;rename_i o g;split at h;rename_i c;have f:∀d,o.dst=some d->d<N:=λd e=>by rw[e]at c;simpa[amQ]using c
 grind
 cases h
theorem TB{E:Env}{T:Tm}{L:List Blk}{a:Act}{w:World}(h:St w0 S0 N E T L a w){d:Option Nat}(b:∀k,d=some k->k<N):St w0 S0 N E (dj d (.tup []) T) L (a.put d undef) w :=
 ⟨h.1,h.2.1.putT (λk c=>by rw[h.2.2.1];exact b k c) ⟨[],rfl,rfl⟩,by rw[Zs];exact h.2.2.1,by rw[SA];exact h.2.2.2⟩
theorem Tk{own:Nat->Nat}{ops:Array Oper}{K:Tm->List Blk->Prop}{Q:Exit->Act->World->Prop}{r:Option Nat}:∀(is:List Nat) (d:List aw),cR P N own ops is=some d ->
  ∀{T:Tm}{L:List Blk}{E:Env}{a:Act}{w:World},St w0 S0 N E T L a w->nG P K d T L->(∀E' T' L' F w',E.le E'->K T' L'->St w0 S0 N E' T' L' F w'->Q .normal F w')->wpOpsIn (gR r) 0 P ops Q is a w
 |[],d,hl,T,L,E,a,w,hst,h,hK=>by simp[cR]at hl;subst hl;exact hK E T L a w (.refl E) h hst
 | i::is,d,hl,T,L,E,a,w,hst,h,hK=>by
   simp only[cR]at hl;split at hl<;>try cases hl
   rename_i M c J I;obtain⟨o,S,y,m,H,R⟩:=jc J;obtain⟨U,v,O⟩:=M;subst m;simp only[wpOpsIn,S];have go:AOp P ⟨o.dst,v,O⟩ (nG P K c) T L->o.wpIn (gR r) 0 P a w (wpOpsIn (gR r) 0 P ops Q is) Q:=λB =>
    OS y H hst B λE' T' L' F w' n q g=>Tk is c I g q λz A p D s k=>hK z A p D s (n.trans k)
   have f:nG P K c (dj o.dst (.tup []) T) L->wpOpsIn (gR r) 0 P ops Q is (a.put o.dst undef) w:=λB =>
    Tk is c I (TB hst H) B hK
   rcases R with⟨g1,C⟩|⟨j,b,t,g1,C,g3,g4⟩
   .subst C;rw[if_pos (by simp[Region.wanted,g1])];exact go h
   .subst g4;simp only[nG]at h;have G:=kz (E:=E) (T:=T) (a:=a) (ops:=ops) hst.2.1 C (by rw[hst.2.2.1];exact g3);rcases hx:ay T t with _|u
    .rw[hx]at h;exact h.elim
    rw[hx]at h;cases u<;>try exact h.elim
    .rename_i x;rw[ED]at h;have:=G.1 x hx;by_cases e:x=b
     .rw[if_pos (by simp[Region.wanted,g1,this,e])];simp_all
     .rw[if_neg (by simp[Region.wanted,g1,this,e])];rw[if_neg e]at h;exact⟨λ_ _=>trivial,f h⟩
    .rename_i l;cases l with
     |cons _ _=>exact h.elim
     | nil =>
       have:=G.2 hx;rw[if_neg (by simp[Region.wanted,g1,this])];exact⟨λ_ _=>trivial,f h⟩
theorem St.weak{T:Tm}{L:List Blk}{E:Env}{a:Act}{w:World}{T':Tm}{L':List Blk}(h:St w0 S0 N E T L a w)(c:∀t v,ay T' t=some v->ay T t=some v)(d:L'.length=L.length)(b:∀(i:Nat) (k:Blk),L'[i]?=some k->k=.dead\/L[i]?=some k):St w0 S0 N E T' L' a w:=⟨h.1.kill d b,h.2.1.weak c,h.2.2⟩
end
def Opd.tmps:Opd->List Nat
 |.tmp t=>[t]
 |.av _=>[]
def ahy:Option Opd->List Nat
 |some x=>x.tmps
 |none=>[]
def acs:List (Nat×Nat×Opd)->List Nat
 |[]=>[]
 |(_,_,x)::l=>x.tmps++acs l
def abB:List Opd->List Nat
 |[]=>[]
 |x::l=>x.tmps++abB l
def LOp.tmps:LOp->List Nat
 |.mv x|.box x|.load _ _ x|.nilchk x|.slnil _ x|.un _ x|.conv _ x|.sconv x|.b2s x|.s2b x|.s2bO x|.s2bG x|.rangeS x|.nextS x|.mkif _ x|.faddr _ x|.field _ _ _ x|.extract x _|.len _ x|.cap x|.clear _ _ x=>x.tmps
 |.pick c a b=>c.tmps++a.tmps++b.tmps
 |.alloc _|.bad|.mkmap=>[]
 |.mlen x|.mrange x|.mnext x|.mentry x=>x.tmps
 |.mget _ _ _ a x=>a.tmps++x.tmps
 |.mdel _ a x=>a.tmps++x.tmps
 |.mset _ c a b=>c.tmps++a.tmps++b.tmps
 |.build _ ps|.bslice _ _ _ _ ps=>acs ps
 |.store _ a x|.bin _ a x|.eqk _ _ a x|.eq2 _ a x|.mkslice _ _ _ a x|.iaddr _ a x|.iaddrA _ _ a x|.idxS a x|.app _ _ _ _ a x|.appz _ _ _ a x|.copy _ a x=>a.tmps++x.tmps
 |.mkfn _ l|.minmax _ l|.call _ l=>abB l
 |.callv f l=>f.tmps++abB l
 |.slS x lo hi|.slA _ _ x lo hi=>x.tmps++ahy lo++ahy hi
 |.slV _ x lo hi mx=>x.tmps++ahy lo++ahy hi++ahy mx
section
variable {T T':Tm}{L:List Blk}
theorem aH{x:Opd}(h:∀t∈x.tmps,ay T t=ay T' t):evX T x=evX T' x:=by
 cases x with
 |tmp t=>exact h t (by simp[Opd.tmps])
 |av a=>rfl
theorem nD{x:Option Opd}(h:∀t∈ahy x,ay T t=ay T' t):bnd T x=bnd T' x:=by
 cases x with
 |none=>rfl
 |some x=>simp only[bnd,aH (x:=x) h]
theorem jJ:∀{l:List Opd},(∀t∈abB l,ay T t=ay T' t)->je T l=je T' l
 |[],_=>rfl
 |x::l,h=>by simp only[abB,apy]at h;simp only[je,aH (x:=x) (λt a=>h t (.inl a)),jJ (l:=l) (λt a=>h t (.inr a))]
theorem Ob:∀{ps:List (Nat×Nat×Opd)}{z:List AV},(∀t∈acs ps,ay T t=ay T' t)->lP T z ps=lP T' z ps
 |[],_,_=>rfl
 | (o,s,x)::l,z,h=>by
   simp only[acs,apy]at h;simp only[lP,aH (x:=x) (λt a=>h t (.inl a))];split
   .split
    .exact Ob λt a=>h t (.inr a)
    .rfl
   .rfl
theorem Wd{lo:LOp}(h:∀t∈lo.tmps,ay T t=ay T' t):au T L lo=au T' L lo:=by
 cases lo
 case mv x=>simp only[au,evD,aH (x:=x) h]
 case box x=>simp only[au,evD,aH (x:=x) h]
 case load g s x=>simp only[au,evD,aH (x:=x) h]
 case nilchk x=>simp only[au,evD,aH (x:=x) h]
 case un o x=>simp only[au,evD,aH (x:=x) h]
 case conv k x=>simp only[au,evD,aH (x:=x) h]
 case sconv x=>simp only[au,evD,aH (x:=x) h]
 case b2s x=>simp only[au,evD,aH (x:=x) h]
 case bad=>rfl
 case mkmap=>rfl
 case mlen x=>simp only[au,evD,aH (x:=x) h]
 case mrange x=>simp only[au,evD,aH (x:=x) h]
 case mnext x=>simp only[au,evD,aH (x:=x) h]
 case mentry x=>simp only[au,evD,aH (x:=x) h]
 case mget kd ok z a x =>
  simp only[LOp.tmps,apy]at h;simp only[au,evD,aH (x:=a) (λt ht=>h t (.inl ht)),aH (x:=x) (λt ht=>h t (.inr ht))]
 case mdel kd a x =>
  simp only[LOp.tmps,apy]at h;simp only[au,evD,aH (x:=a) (λt ht=>h t (.inl ht)),aH (x:=x) (λt ht=>h t (.inr ht))]
 case mset kd c a b =>
  simp only[LOp.tmps,apy]at h;simp only[au,evD,aH (x:=c) (λt ht=>h t (.inl (.inl ht))),aH (x:=a) (λt ht=>h t (.inl (.inr ht))),aH (x:=b) (λt ht=>h t (.inr ht))]
 case slnil _ x=>simp only[au,evD,aH (x:=x) h]
 case s2b x=>simp only[au,evD,aH (x:=x) h]
 case s2bO x=>simp only[au,evD,aH (x:=x) h]
 case s2bG x=>simp only[au,evD,aH (x:=x) h]
 case rangeS x=>simp only[au,evD,aH (x:=x) h]
 case nextS x=>simp only[au,evD,aH (x:=x) h]
 case mkif t x=>simp only[au,evD,aH (x:=x) h]
 case faddr o x=>simp only[au,evD,aH (x:=x) h]
 case field g o s x=>simp only[au,evD,aH (x:=x) h]
 case extract x i=>simp only[au,evD,aH (x:=x) h]
 case len b x=>cases b<;>simp only[au,evD,aH (x:=x) h]
 case cap x=>simp only[au,evD,aH (x:=x) h]
 case clear s z x=>simp only[au,evD,aH (x:=x) h]
 case alloc z=>rfl
 case pick c a b =>
  simp only[LOp.tmps,apy]at h;simp only[au,evD,aH (x:=c) (λt ht=>h t (.inl (.inl ht))),aH (x:=a) (λt ht=>h t (.inl (.inr ht))),aH (x:=b) (λt ht=>h t (.inr ht))]
 case build z ps=>simp only[au,evD,Ob (ps:=ps) h]
 case bslice o s n z ps=>simp only[au,evD,Ob (ps:=ps) h]
 case mkfn f l=>simp only[au,evD,jJ (l:=l) h]
 case minmax m l =>
  match l,h with
  | [x,y],h =>
    simp only[LOp.tmps,abB,apy,ap4]at h;simp only[au,evD,aH (x:=x) (λt ht=>h t (.inl ht)),aH (x:=y) (λt ht=>h t (.inr ht))]
  |[],_=>rfl
  |[_],_=>rfl
  |_::_::_::_,_=>rfl
 case call f l=>rfl
 case callv f l=>rfl
 case slS x lo hi =>
  simp only[LOp.tmps,apy]at h;simp only[au,evD,aH (x:=x) (λt ht=>h t (.inl (.inl ht))),nD (x:=lo) (λt ht=>h t (.inl (.inr ht))),nD (x:=hi) (λt ht=>h t (.inr ht))]
 case slA n s x lo hi =>
  simp only[LOp.tmps,apy]at h;simp only[au,evD,aH (x:=x) (λt ht=>h t (.inl (.inl ht))),nD (x:=lo) (λt ht=>h t (.inl (.inr ht))),nD (x:=hi) (λt ht=>h t (.inr ht))]
 case slV s x lo hi mx =>
  simp only[LOp.tmps,apy]at h;simp only[au,evD,aH (x:=x) (λt ht=>h t (.inl (.inl (.inl ht)))),nD (x:=lo) (λt ht=>h t (.inl (.inl (.inr ht)))),nD (x:=hi) (λt ht=>h t (.inl (.inr ht))),nD (x:=mx) (λt ht=>h t (.inr ht))]
 all_goals
  rename_i a x;simp only[LOp.tmps,apy]at h;simp only[au,evD,aH (x:=a) (λt ht=>h t (.inl ht)),aH (x:=x) (λt ht=>h t (.inr ht))]
end
def aw.reads(o:aw):List Nat :=
 o.op.tmps++(match o.guard with|some (t,_)=>[t]|none=>[])
def AQv(P:Program)(o:aw)(T:Tm)(L:List Blk)(v:AV):Prop :=
 match o.op with
 | .call f xs=>match je T xs with
   |some args=>af P f args L λav L'=>av=v/\L'=L
   |none=>False
 | .callv f xs=>match evX T f,je T xs with
   |some (.func g caps),some args=>af P g (args++caps) L λav L'=>av=v/\L'=L
   |_,_=>False
 | lo=>match au T L lo with
   |some (c,av,L')=>c/\av=v/\L'=L
   |none=>False
def AQ(P:Program)(o:aw)(T:Tm)(L:List Blk)(v:AV):Prop :=
 match o.guard with
 |none=>AQv P o T L v
 | some (t,b)=>match ay T t with
   |some (.bool x)=>if x=b then AQv P o T L v else v=.tup []
   |some (.tup [])=>v=.tup []
   |_=>False
theorem AQ.congr{P:Program}{o:aw}{T T':Tm}{L:List Blk}(h:∀t∈o.reads,ay T t=ay T' t)(g:AQ P o T L v):AQ P o T' L v:=by
 have a:∀t∈o.op.tmps,ay T t=ay T' t:=λt d=>h t (by simp[aw.reads,d])
 have c:AQv P o T L v->AQv P o T' L v:=λc=>by unfold AQv at c⊢;split at c;rename_i f xs e;rw[e]at a;rw[<- jJ (l:=xs) a];exact c;rename_i f xs e;rw[e]at a;simp only[LOp.tmps,apy]at a;rw[<- jJ (l:=xs) (λt d=>a t (.inr d)),<- aH (x:=f) (λt d=>a t (.inl d))];exact c;rw[<- Wd a];exact c
 unfold AQ at g⊢;split at g;simp[*];rename_i t b i;rw[<- h t (by simp[aw.reads,i])]
 grind
def TL(T:Tm):List aw->List AV->Nat->(Nat->Bool)->Tm
 |o::qs,v::tr,k,f=>TL (if f k=true then dj o.dst v T else T) qs tr (k+1) f
 |_,_,_,_=>T
def aeS:List aw->Prop
 |[]=>True
 |o::qs=>(∀p∈qs,∀d,o.dst=some d->p.dst≠some d)/\aeS qs
theorem EP{T:Tm}(h:d≠some t):ay (dj d v T) t=ay T t:=by
 cases d with
 |none=>rfl
 |some d=>simp only[dj,ay];rw[if_neg (λe=>h (by rw[e]))]
theorem V1{T:Tm}:ay (dj (some t) v T) t=some v:=by simp[dj,ay]
theorem Y4{t:Nat}:∀{qs:List aw}{tr:List AV}{T:Tm}{k:Nat}{f:Nat->Bool},(∀(j:Nat) (o:aw),qs[j]?=some o->o.dst=some t->f (k+j)=false)->ay (TL T qs tr k f) t=ay T t
 |[],tr,T,k,f,_=>by cases tr<;>rfl
 |o::qs,[],T,k,f,_=>rfl
 | o::qs,v::tr,T,k,f,h=>by
   simp only[TL];rw[Y4 (λj p b a=>by have:=h (j+1) p (by simpa using b) a;rwa[show k+1+j=k+(j+1)by omega])];split
   .rename_i hf;refine EP λe=>?_
    have:=h 0 o asQ e;simp_all
   .rfl
theorem agR{t:Nat}{v:AV}:∀{qs:List aw}{tr:List AV}{T:Tm}{k:Nat}{f:Nat->Bool}{j:Nat}{o:aw},aeS qs->qs[j]?=some o->o.dst=some t->tr[j]?=some v->f (k+j)=true->ay (TL T qs tr k f) t=some v
 |[],_,_,_,_,j,o,_,h,_,_,_=>by simp at h
 |p::qs,[],_,_,_,j,o,_,_,_,h,_=>by simp at h
 |p::qs,u::tr,T,k,f,0,o,hD,h,hd,hv,hf=>by simp only[aqm,apu]at h hv;subst h hv;simp only[TL];simp only[aqz]at hf;rw[if_pos hf,Y4 λj q b a=>absurd a (hD.1 q (aqj b) t hd),hd];exact V1
 |p::qs,u::tr,T,k,f,j+1,o,hD,h,hd,hv,hf=>by simp only[TL];exact agR hD.2 (by simpa using h) hd (by simpa using hv) (by rwa[show k+1+j=k+(j+1)by omega])
theorem ac7:∀{qs:List aw}{tr:List AV}{T:Tm}{k:Nat}{f g:Nat->Bool},(∀j,j<qs.length->f (k+j)=g (k+j))->TL T qs tr k f=TL T qs tr k g
 |[],tr,T,k,f,g,_=>by cases tr<;>rfl
 |o::qs,[],T,k,f,g,_=>rfl
 |o::qs,v::tr,T,k,f,g,h=>by simp only[TL];have a:=h 0 asQ;simp only[aqz]at a;rw[a];exact ac7 λj b=>by rw[show k+1+j=k+(j+1)by omega];exact h (j+1) (by simpa using b)
theorem aeJ:∀(qs:List aw) (tr:List AV) (T:Tm) (k:Nat),TL T qs tr k (λ_=>false)=T:=by
 intro qs;induction qs with
 |nil=>intro tr T k;cases tr<;>rfl
 | cons q qs ih=>intro tr T k;cases tr with
   |nil=>rfl
   |cons u tr=>simp only[TL];rw[ih];simp
theorem OC{t:Nat}:∀{qs:List aw}{i j:Nat}{o p:aw},aeS qs->qs[i]?=some o->qs[j]?=some p->o.dst=some t->p.dst=some t->i=j
 |[],i,j,o,p,_,h,_,_,_=>by simp at h
 |q::qs,0,0,o,p,_,_,_,_,_=>rfl
 |q::qs,0,j+1,o,p,hD,h1,h2,d1,d2=>by simp only[aqm,apu]at h1;subst h1;exact absurd d2 (hD.1 p (aqj (by simpa using h2)) t d1)
 |q::qs,i+1,0,o,p,hD,h1,h2,d1,d2=>by simp only[aqm,apu]at h2;subst h2;exact absurd d1 (hD.1 o (aqj (by simpa using h1)) t d2)
 |q::qs,i+1,j+1,o,p,hD,h1,h2,d1,d2=>by have:=OC (i:=i) (j:=j) (o:=o) (p:=p) hD.2 (by simpa using h1) (by simpa using h2) d1 d2;omega
theorem ac5{qs:List aw}{tr:List AV}{T:Tm}{f:Nat->Bool}{j:Nat}{o:aw}(c:aeS qs)(i:tr.length=qs.length)(h:qs[j]?=some o)(d:o.dst=some t):
  ay (TL T qs tr 0 f) t=if f j=true then tr[j]? else ay T t:=by
 have g:j<tr.length:=by have:=(aps.1 h).1;omega
 split;rename_i e;rw[apD g];exact agR c h d (apD g) (by simpa using e);rename_i e;exact Y4 λl k a b=>by have:=OC c a h b d;simp[*]
theorem ac6{qs:List aw}{tr:List AV}{T:Tm}{f:Nat->Bool}(h:∀(j:Nat) (o:aw),qs[j]?=some o->o.dst≠some t):ay (TL T qs tr 0 f) t=ay T t :=
 Y4 λj o a b=>absurd b (h j o a)
def agK(tbl:List Nat)(o:Oper):Nat:=(o.after.toList.filter λe=>Region.binds .any e).foldl (λacc e=>acc |||(1 <<< e.on) |||tbl.getD e.on 0) 0
def pl:List Oper->List Nat->List Nat
 |[],t=>t
 |o::l,t=>pl l (t++[agK t o])
def akh(ops:Array Oper)(tbl:List Nat):Bool:=ops.toList.zipIdx.all λ(o,i)=>tbl.getD i 0 == agK tbl o
theorem ab5{o:Oper}{j:Nat}(h:(agK tbl o).testBit j=true):∃e∈o.after.toList,Region.binds .any e=true/\(j=e.on\/(tbl.getD e.on 0).testBit j=true):=by
 have key:∀(l:List Edge) (b:Nat),(l.foldl (λb e=>b |||(1 <<< e.on) |||tbl.getD e.on 0) b).testBit j=true->b.testBit j=true\/∃e∈l,j=e.on\/(tbl.getD e.on 0).testBit j=true:=by
  intro l;induction l with
  |nil=>intro b h;exact .inl h
  | cons e l ih =>
    intro b h;rcases ih _ h with a|⟨d,a,c⟩
    .rw[Nat.testBit_or,Nat.testBit_or,aqf,aqf]at a;rcases a with(a|a)|a
     .simp[*]
     .refine .inr ⟨e,asQ,.inl ?_⟩;rw[Nat.one_shiftLeft,Nat.testBit_two_pow]at a;exact(of_decide_eq_true a).symm
     .exact .inr ⟨e,asQ,.inr a⟩
    .exact .inr ⟨d,by simp[a],c⟩
 rcases key _ _ h with a|⟨e,a,c⟩;simp at a;rw[ap8]at a;exact⟨e,a.1,a.2,c⟩
def agJ:List aw->Bool
 |[]=>true
 |o::qs=>(match o.dst with|some d=>qs.all λp => !(p.dst == some d)|none=>true)&&agJ qs
theorem aab:∀{qs:List aw},agJ qs=true->aeS qs
 |[],_=>trivial
 |o::qs,h=>by simp only[agJ,apw]at h;refine⟨λp b d a=>?_,aab h.2⟩;simp_all
def aoh(tbl:List Nat)(los:List aw):Bool :=
 los.zipIdx.all λ(o,i)=>o.reads.all λt=>los.zipIdx.all λ(p,j) => !(p.dst == some t) ||(tbl.getD i 0).testBit j ||(tbl.getD j 0).testBit i
def aaM(ops:Array Oper):Bool:=ops.toList.zipIdx.all λ(o,i)=>o.after.toList.all λe => !Region.binds .any e ||decide (e.on<i)
def afV(tbl:List Nat)(n k:Nat):Bool:=(List.range k).all λi=>decide (i<n) ||(List.range i).all λj=>(tbl.getD i 0).testBit j
def ab7(tbl:List Nat)(k:Nat):Nat->Nat
 |0=>0
 |n+1=>if((List.range n).all λj=>(tbl.getD n 0).testBit j)=true then ab7 tbl k n else n+1
def Oc(ops:Array Oper)(los:List aw)(n:Nat):Bool :=
 let tbl:=pl ops.toList []
 agJ los&&aoh tbl los&&aaM ops&&akh ops tbl&&afV tbl n ops.size
def Xo(ops:Array Oper)(listed:Array Bool):Prop:=∀(i:Nat) (o:Oper),listed.getD i false=true->ops[i]?=some o->∀e∈o.after,Region.binds .any e=true->listed.getD e.on false=true
theorem agj{ops:Array Oper}(a:akh ops tbl=true){o:Oper}(b:ops[i]?=some o):tbl.getD i 0=agK tbl o:=by have:=apF.1 a (o,i) (by rw[arK];simpa using b);simp_all
theorem OT{ops:Array Oper}(h:aaM ops=true){o:Oper}(a:ops[i]?=some o){e:Edge}(b:e∈o.after)(c:Region.binds .any e=true):e.on<i:=by
 have:=apF.1 h (o,i) (by rw[arK];simpa using a)
 grind
theorem acY{ops:Array Oper}(h:aaM ops=true)(g:akh ops tbl=true):∀(i j:Nat),i<ops.size->(tbl.getD i 0).testBit j=true->j<i:=by
 intro i;induction i using Nat.strongRecOn with
 | _ i ih =>
   intro j k a;have b:ops[i]?=some ops[i]:=aqp k;rw[agj g b]at a;obtain⟨e,d,c,a⟩:=ab5 a;have f:=OT h b (by simpa using d) c
   grind
theorem gT{ops:Array Oper}(h:aaM ops=true)(u:akh ops tbl=true){a:Array Bool}(q:Xo ops a):∀(i j:Nat),i<ops.size ->
  (∀o,ops[i]?=some o->∀e∈o.after,Region.binds .any e=true->a.getD e.on false=true)->(tbl.getD i 0).testBit j=true->a.getD j false=true:=by
 intro i;induction i using Nat.strongRecOn with
 | _ i ih =>
   intro j r k b;have g:ops[i]?=some ops[i]:=aqp r;rw[agj u g]at b;obtain⟨e,m,n,b⟩:=ab5 b;have l:=OT h g (by simpa using m) n;have s:=k _ g e (by simpa using m) n;rcases b with rfl|b
   .omega
   .exact ih e.on l j asP (λt c p f d=>q e.on t s c p f d) b
theorem ah4:∀(l:List Bool) (i:Nat),l[i]?=some false->(l.set i true).count false+1=l.count false
 |[],i,h=>by simp at h
 |b::l,0,h=>by simp at h;subst h;simp
 |b::l,i+1,h=>by grind
theorem EN{P:Program}{N:Nat}{own:Nat->Nat}{ops:Array Oper}:∀{is:List Nat}{a:List aw},cR P N own ops is=some a->a.length=is.length/\∀(k i:Nat),is[k]?=some i->∃b,a[k]?=some b/\nJ P N own ops i=some b
 |[],a,h=>by simp[cR]at h;subst h;simp
 | j::is,a,h=>by
   simp only[cR]at h;split at h<;>try cases h
   rename_i o m d c;have:=EN c
   grind
section
variable {P:Program}{r:Option Nat}{w0:World}{S0:SB}{N:Nat}{own:Nat->Nat}{ops:Array Oper}{L:List Blk}
theorem akC{i:Nat}{q:aw}(S:nJ P N own ops i=some q){T:Tm}{v:AV}{E:Env}{a:Act}{w:World}(h:St w0 S0 N E T L a w)(l:AQ P q T L v){K:Act->World->Prop}{Q:Exit->Act->World->Prop}(D:∀E' H w',E.le E'->St w0 S0 N E' (dj q.dst v T) L H w'->K H w'):wpOpIn (gR r) 0 P ops Q i K a w:=by
 obtain⟨o,V,p,m,F,O⟩:=jc S;obtain⟨X,k,y⟩:=q;simp only at p m O D;subst m;unfold wpOpIn;simp only[V];have n:AQv P ⟨o.dst,k,y⟩ T L v->AOp P ⟨o.dst,k,y⟩ (λT' L'=>T'=dj o.dst v T/\L'=L) T L:=λd=>by
  unfold AQv at d;unfold AOp;simp only at d⊢;split at d;split at d;rename_i f xs _ args C;show Cal P f _ o.dst T L (je T xs);rw[C];exact d.mono λav L' ⟨z,A⟩=>by subst z;exact⟨rfl,A⟩
  simp_all;split at d;rename_i f xs _ _ g caps args s B;show aip P _ o.dst T L (evX T f) (je T xs);rw[s,B];exact d.mono λav L' ⟨z,A⟩=>by subst z;exact⟨rfl,A⟩
  simp_all;split at d;rename_i c av L' C;have J:Res (λT' L'=>T'=dj o.dst v T/\L'=L) o.dst T (au T L k):=by rw[C];obtain⟨U,rfl,rfl⟩:=d;exact⟨U,rfl,rfl⟩
  simp_all;simp_all
 have go:AQv P ⟨o.dst,k,y⟩ T L v->o.wpIn (gR r) 0 P a w K Q:=λd =>
  OS p F h (n d) λE' T' L' H w' R W I=>by grind
 unfold AQ at l;rcases O with⟨g1,G⟩|⟨j,b,t,g1,G,g3,g4⟩;subst G;simp only at l;rw[if_pos (by simp[Region.wanted,g1])];simp[*];subst g4;simp only at l;have M:=kz (E:=E) (T:=T) (a:=a) (ops:=ops) h.2.1 G (by rw[h.2.2.1];exact g3);split at l;rename_i x u;have:=M.1 x u;by_cases e:x=b;rw[if_pos e]at l;rw[if_pos (by simp[Region.wanted,g1,this,e])];simp[*];rw[if_neg e]at l;subst l;rw[if_neg (by simp[Region.wanted,g1,this,e])];exact⟨λ_ _=>trivial,D E _ w (.refl E) (TB h F)⟩;rename_i u;have:=M.2 u;subst l;rw[if_neg (by simp[Region.wanted,g1,this])];exact⟨λ_ _=>trivial,D E _ w (.refl E) (TB h F)⟩;simp_all
theorem aaL{i:Nat}{p:aw}(D:nJ P N own ops i=some p){T:Tm}{L:List Blk}{E:Env}{a:Act}{w:World}(c:St w0 S0 N E T L a w){K:Tm->List Blk->Prop}(h:nG P K [p] T L){k:Act->World->Prop}{Q:Exit->Act->World->Prop}(B:∀E' T' L' m w',E.le E'->K T' L'->St w0 S0 N E' T' L' m w'->k m w'):wpOpIn (gR r) 0 P ops Q i k a w:=by
 obtain⟨o,H,v,g,C,G⟩:=jc D;obtain⟨I,s,F⟩:=p;subst g;unfold wpOpIn;simp only[H];have go:AOp P ⟨o.dst,s,F⟩ (nG P K []) T L->o.wpIn (gR r) 0 P a w k Q:=λy =>
  OS v C c y λE' T' L' m w' n q f=>B E' T' L' m w' n q f
 have d:K (dj o.dst (.tup []) T) L->k (a.put o.dst undef) w:=λy=>B E _ L _ w (.refl E) y (TB c C)
 rcases G with⟨g1,z⟩|⟨j,b,t,g1,z,g3,g4⟩;subst z;rw[if_pos (by simp[Region.wanted,g1])];exact(go h);subst g4;simp only[nG]at h;have A:=kz (E:=E) (T:=T) (a:=a) (ops:=ops) c.2.1 z (by rw[c.2.2.1];exact g3);rcases hx:ay T t with _|u;rw[hx]at h;exact h.elim;rw[hx]at h;cases u<;>try exact h.elim
 rename_i x;rw[ED]at h;have:=A.1 x hx;by_cases e:x=b;rw[if_pos (by simp[Region.wanted,g1,this,e])];rw[if_pos e]at h;exact(go h);rw[if_neg (by simp[Region.wanted,g1,this,e])];rw[if_neg e]at h;exact⟨λ_ _=>trivial,d h⟩;rename_i l;cases l with
 |cons _ _=>exact h.elim
 | nil =>
   have:=A.2 hx;rw[if_neg (by simp[Region.wanted,g1,this])];exact⟨λ_ _=>trivial,d h⟩
theorem ae2{D:List aw}{tbl:List Nat}{n:Nat}(F:cR P N own ops (List.range ops.size)=some D)(c:aaM ops=true)(J:akh ops tbl=true)(u:afV tbl n ops.size=true){K:Tm->List Blk->Prop}{Q:Exit->Act->World->Prop}{E0:Env}(hQ:∀E' T' L' R w',E0.le E'->K T' L'->St w0 S0 N E' T' L' R w'->Q .normal R w'):
  ∀(ts:List aw) (k:Nat) (b:Array Bool) (T:Tm) (L:List Blk) (a:Act) (w:World) (E:Env),n<=k->k+ts.length=ops.size->D.drop k=ts->b.size=ops.size ->
   (∀i,i<ops.size->b.getD i false=decide (i<k))->Xo ops b->E0.le E->St w0 S0 N E T L a w->nG P K ts T L->wpAnyIn (gR r) 0 P .any ops Q ts.length b a w:=by
 have M:=EN F;have p:∀(k:Nat) (b:Array Bool),n<=k->b.size=ops.size->(∀i,i<ops.size->b.getD i false=decide (i<k))->Xo ops b->∀i∈Region.ready .any ops b,i=k:=by
  intro k b s q v m i B;obtain⟨ai,o,Z,ad⟩:=mem_ready.1 B;have H:i<ops.size:=(aqh.1 Z).1;have I:¬i<k:=λe=>by simp_all
  rcases apV k i with U|U;have:=apF.1 u i (by simpa using H);simp only[aqf,decide_eq_true_eq]at this;rcases this with h2|h2;omega;have h3:=apF.1 h2 k (by simpa using U);have h4:=gT c J m i k H (λo' f=>by rw[Z]at f;cases f;exact ad) h3
  grind
  omega
 intro ts;induction ts with
 | nil =>
   intro k b T L a w E s hk y q v m Y x h;refine⟨List.eq_nil_iff_forall_not_mem.2 (λi B=>?_),hQ E T L a w Y h x⟩;have U:=p k b s q v m i B;obtain⟨_,o,Z,_⟩:=mem_ready.1 B;simp_all
 | cons t ts ih =>
   intro k b T L a w E s hk y q v m Y x h;simp only[apC]at hk;have z:k<ops.size:=asP;have G:k∈Region.ready .any ops b:=by
    refine mem_ready.2 ⟨?_,ops[k],aqp z,λe O X=>?_⟩
    .simp_all
    .have:=OT c (aqp z) O X;rw[v _ asP];simpa using this
   refine⟨λe=>absurd G (by rw[e];simp),λi B=>?_⟩;have I:=p k b s q v m i B;subst I;obtain⟨W,g1,g2⟩:=M.2 i i (by simp[z]);have ht:W=t:=by have:=congrArg (λl=>l[0]?) y;simp only[aqo,aqz,aqm]at this;rw[g1]at this;exact Option.some.inj this
   subst ht;have h':nG P (nG P K ts) [W] T L:=by obtain⟨d,op,g⟩:=W;cases g<;>exact h
   exact aaL g2 x h' λE' T' L' R w' S V C=>by
    refine ih (i+1) (b.setIfInBounds i true) T' L' R w' E' asP asP ?_ (by simpa using q) (λj A=>?_) ?_ (Y.trans S) C V
    .rw[<- ash,y];rfl
    .by_cases e:j=i
     .subst e;have:j<b.size:=asP;simp[aqV,this]
     .rw[getD_set_ne false (Ne.symm e),v j A];congr 1;apply propext;omega
    .intro j o' A f e O hb;have h5:=OT c f O hb;have h6:j<ops.size:=(aqh.1 f).1;by_cases e1:j=i
     .subst e1;rw[getD_set_ne false asP,v _ asP];simpa using h5
     .rw[getD_set_ne false (Ne.symm e1)]at A;rw[getD_set_ne false (by rw[v j h6]at A;simp at A;omega)];exact m j o' A f e O hb
def lst(L:List Blk)(al:Option (Nat×List AV))(listed:Array Bool):List Blk :=
 match al with
 |some (i,z)=>if listed.getD i false=true then L++[.cells z]else L
 |none=>L
end
end Go.Proofs.YtdnfjhflkkpokaaGreatDoor.Av
