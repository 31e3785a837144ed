/- Joined texts of the walk, made small by a program. -/
import Derived.Test.YtajkbcmleihaoaaGreatDoorWk2
import Derived.MapKept
set_option linter.unusedSimpArgs false
set_option linter.unusedVariables false
namespace Go.Proofs.YtajkbcmleihaoaaGreatDoor.Av
open Go
variable {f:FuncId}{i t:Nat}{args:List AV}{K:Tm->List Blk->Prop}{d:Option Nat}{b:Bool}{v:AV}{tbl:List Nat}
section
variable {P:Program}{w0:World}{S0:SB}{E:Env}{L:List Blk}{w:World}{T:Tm}{a:Act}
theorem Ys{own:Nat}{s d:TypeId}{x:Operand}{v:Opd}{r:LOp}{c:Prop}{av:AV}{L':List Blk}(m:Rel w0 S0 E L w)(p:TR E T a)(o:aY x=some v)(h:yK P own s d v=some r)(b:ak T L r=some (c,av,L'))(z:c):
  dw P w0 S0 E L' av w (do pure (.value (<- convert s d (a.eval x)))):=by
 unfold yK at h;split at h;rename_i j k i hd;cases h;simp only[ak]at b;split at b<;>try cases b
 rename_i q n f;exact(Xu m ⟨j,i⟩ hd (ah o f p)).done;rename_i i hd;cases h;simp only[ak]at b;split at b<;>try cases b
 rename_i l f;exact(U9 m i hd (ah o f p) ⟨l,rfl⟩).done;rename_i e i hd;split at h<;>try cases h
 rename_i g;simp only[ak]at b;split at b<;>try cases b
 rename_i u B f;split at b<;>try cases b
 rename_i c' l n A;exact(Zu m i g hd (ah o f p) A z.1 z.2 (λt e=>B t e)).done
 .rename_i e i hd;split at h<;>try cases h
  rename_i g
  repeat' split at h
  all_goals cases h
  simp only[ak]at b;split at b<;>try cases b
  rename_i y f;exact(Xo m i hd g (ah o f p)).done;simp only[ak]at b;split at b<;>try cases b
  rename_i y f;exact(Xp m i hd g (ah o f p)).done;simp only[ak]at b;split at b<;>try cases b
  rename_i y f;exact(Zr m i hd g (ah o f p)).done
 simp_all
theorem Wp{xs:List Operand}{a:List Opd}(h:ni xs=some a):a.length=xs.length/\∀(i:Nat) (y:Opd),a[i]?=some y->∃x,xs[i]?=some x/\aY x=some y:=by
 induction xs generalizing a with
 |nil=>simp[ni]at h;subst h;simp
 | cons x xs ih =>
   simp only[ni,agG]at h;rcases h1:aY x with _|y
   .simp_all
   .rcases h2:xs.mapM aY with _|b
    .simp_all
    .have:=ih (by simpa[ni]using h2)
     grind
theorem Z3{xs:List Operand}{y:Opd}(h:ni xs=some [y]):∃x,xs=[x]/\aY x=some y:=by
 have:=Wp h
 match xs,this with
 | [x],⟨_,h2⟩ =>
   obtain⟨z,a,h4⟩:=h2 0 y ahe
   grind
theorem T7{xs:List Operand}{y z:Opd}(h:ni xs=some [y,z]):∃u v,xs=[u,v]/\aY u=some y/\aY v=some z:=by
 have:=Wp h
 match xs,this with
 | [u,v],⟨_,h2⟩ =>
   obtain⟨p,b,h4⟩:=h2 0 y ahe;obtain⟨q,c,a⟩:=h2 1 z ahe
   grind
theorem aaO{own:Nat}{t:TypeId}{y:Opd}{xs:List Operand}{ty:TypeId}{cs:Array Bool}{B:LOp}{c:Prop}{av:AV}{L':List Blk}(C:Rel w0 S0 E L w)(u:TR E T a)(F:ni xs=some [y])(l:cj P own .len [t] [y]=some B)(j:ak T L B=some (c,av,L')):dw P w0 S0 E L' av w (builtin .len ⟨[t]⟩ ty cs ⟨xs.map a.eval⟩):=by
 obtain⟨x,rfl,k⟩:=Z3 F;have i:∀(n:Int),(Builtin.len_ #[t] ty #[a.eval x]).run P w=.ok (.int .i64 n) w->dw P w0 S0 E L (.int .i64 n) w (builtin .len ⟨[t]⟩ ty cs ⟨[x].map a.eval⟩):=λn h=>.same C (v:=.int .i64 n) (by simp[builtin,h]) (by simp[VR])
 simp only[cj]at l;split at l;rename_i hd;cases l;simp only[ak]at j;split at j<;>try cases j
 rename_i s m;have g:=ah k m u;simp only[VR]at g;have A:(ByteArray.mk ⟨s⟩).size=s.length:=rfl;exact i _ (by simp only[Builtin.len_,agc,afc,aer,run_underlying hd,aes,g,goInt,A,aeP])
 .rename_i e hd;cases l;simp only[ak]at j;split at j<;>try cases j
  all_goals rename_i m;have g:=ah k m u
  simp only[VR]at g;exact i _ (by simp[Builtin.len_,run_underlying hd,g,goInt]);obtain⟨_,_,g,_⟩:=g;exact i _ (by simp[Builtin.len_,run_underlying hd,g,goInt]);obtain⟨_,_,g,_⟩:=g;exact i _ (by simp[Builtin.len_,run_underlying hd,g,goInt]);obtain⟨_,_,g⟩:=g.lsl_shape;exact i _ (by simp[Builtin.len_,run_underlying hd,g,goInt])
 rename_i n e hd;cases l;obtain⟨rfl,rfl,rfl⟩:=j;exact i _ (by simp[Builtin.len_,run_underlying hd,goInt])
 .rename_i kt et hd;cases l;simp only[ak]at j;split at j<;>try cases j
  all_goals rename_i m;have g:=ah k m u
  simp only[VR]at g;exact i _ (by simp[Builtin.len_,run_underlying hd,g,goInt]);split at j<;>try cases j
  rename_i es ck G;obtain⟨d,z,g⟩:=g;obtain⟨I,rs,g1,H,g3⟩:=C.blk _ _ G;rw[z]at g1;cases g1;have o:∀{es:List (AV×AV×Nat)}{rs:List MapEntry},az E es rs->rs.length=es.length:=by
   intro es;induction es with
   |nil=>intro rs h;simp only[az]at h;subst h;rfl
   |cons p es ih=>intro rs h;obtain⟨q,y,b⟩:=p;obtain⟨f,s,rfl,_,_,_,g4⟩:=h;simp[ih g4]
  have D:(getObj d.blk).run P w=.ok (.map rs ck) w:=(by simp[getObj,Sem.run,H]);have r:rs.size=es.length:=(by rw[<- o g3];simp);exact i _ (by simp[Builtin.len_,run_underlying hd,g,goInt,D,r])
 simp_all
theorem aaQ{own:Nat}{t:TypeId}{y:Opd}{xs:List Operand}{ty:TypeId}{cs:Array Bool}{k:LOp}{c:Prop}{av:AV}{L':List Blk}(m:Rel w0 S0 E L w)(p:TR E T a)(o:ni xs=some [y])(g:cj P own .cap [t] [y]=some k)(f:ak T L k=some (c,av,L')):dw P w0 S0 E L' av w (builtin .cap ⟨[t]⟩ ty cs ⟨xs.map a.eval⟩):=by
 obtain⟨x,rfl,i⟩:=Z3 o;have b:∀(n:Int),(Builtin.cap_ #[t] ty #[a.eval x]).run P w=.ok (.int .i64 n) w->dw P w0 S0 E L (.int .i64 n) w (builtin .cap ⟨[t]⟩ ty cs ⟨[x].map a.eval⟩):=λn h=>.same m (v:=.int .i64 n) (by simp[builtin,h]) (by simp[VR])
 simp only[cj]at g;split at g
 .rename_i e hd;cases g;simp only[ak]at f;split at f<;>try cases f
  all_goals rename_i l;have d:=ah i l p;simp only[VR]at d
  exact b _ (by simp[Builtin.cap_,run_underlying hd,d,goInt]);obtain⟨_,_,d,_,j,_⟩:=d;exact b _ (by simp[Builtin.cap_,run_underlying hd,d,goInt,j _ rfl]);obtain⟨_,_,_,_,d,_,_,j,_⟩:=d;exact b _ (by simp[Builtin.cap_,run_underlying hd,d,goInt,j _ rfl])
 rename_i n e hd;cases g;simp only[ak,evX,aeC,aej,aet]at f;obtain⟨rfl,rfl,rfl⟩:=f;exact b _ (by simp[Builtin.cap_,run_underlying hd,goInt]);simp_all
theorem Rt{t ty:TypeId}{q:TypeDesc}{x:AV}{p:Value}(g:Rel w0 S0 E L w)(m:P.underlying t=some q)(a:VR E x p):
  (x=.nilmap->bK P w0 S0 E L (.tup []) w (Builtin.clear_ #[t] ty #[p])) /\
  (∀i es ck,x=.lmap i->L[i]?=some (.map es ck)->bK P w0 S0 E (L.set i (.map [] ck)) (.tup []) w (Builtin.clear_ #[t] ty #[p])):=by
 refine⟨λl=>?_,λi es ck l n=>?_⟩<;>subst l<;>simp only[VR]at a;subst a;exact .same g (v:=.tuple #[]) (by simp[Builtin.clear_,run_underlying m]) ⟨[],rfl,rfl⟩;obtain⟨c,j,rfl⟩:=a;obtain⟨c',rs,k,d,s⟩:=g.blk i _ n;rw[j]at k;cases k;have f:c.blk<w.heap.size:=(ae1.1 d).1;have r:(getObj c.blk).run P w=.ok (.map rs ck) w:=by simp[getObj,Sem.run,d]
 have h:(setObj c.blk (.map #[] ck)).run P w=.ok () {w with heap:=w.heap.setIfInBounds c.blk (.map #[] ck)}:=by simp[setObj,Sem.run,d]
 refine⟨E,.tuple #[],{w with heap:=w.heap.setIfInBounds c.blk (.map #[] ck)},by simp[Builtin.clear_,run_underlying m,r,h],.refl E,⟨[],rfl,rfl⟩,?_⟩;exact g.turn (w':={w with heap:=w.heap.setIfInBounds c.blk (.map #[] ck)}) (k':=.map [] ck) n rfl j ahe (λb o=>by simp[agb,Ne.symm o]) rfl rfl rfl
  ⟨c,#[],j,by simp[f],by simp[az]⟩ (λ_ _ e=>by cases e)
theorem SI{own:Nat}{b:Builtin}{ts:List TypeId}{xs:List Operand}{X:List Opd}{ty:TypeId}{cs:Array Bool}{S:LOp}{c:Prop}{av:AV}{L':List Blk}(r:Rel w0 S0 E L w)(h:TR E T a)(I:ni xs=some X)(f:cj P own b ts X=some S)(d:ak T L S=some (c,av,L'))(K:c)(M:b=.delete->dw P w0 S0 E L' av w (builtin b ⟨ts⟩ ty cs ⟨xs.map a.eval⟩)):dw P w0 S0 E L' av w (builtin b ⟨ts⟩ ty cs ⟨xs.map a.eval⟩):=by
 have Q:=f;unfold cj at f;split at f;exact aaO r h I Q d;exact aaQ r h I Q d;rename_i t t' y z;obtain⟨u,v,rfl,o,G⟩:=T7 I;have key:∀e s j C,P.underlying t=some (.slice e)->((∃W,P.underlying t'=some (.slice W))\/P.underlying t'=some .string)->bG P e=some s->Qm P e=some j->zOf P e=some C->C.length=s->S=.app own s j C y z ->
   dw P w0 S0 E L' av w (builtin .append ⟨[t,t']⟩ ty cs ⟨[u,v].map a.eval⟩):=λe s j C H J D h4 F B U=>by
  subst U;simp only[ak]at d;split at d<;>try cases d
  rename_i p q g x;exact(Zv r H J D h4 F B (ah o g h) (ah G x h) d K).done
 split at f;rename_i e W H J;split at f<;>try cases f
 rename_i s j C D h4 F;split at f<;>try cases f
 rename_i B;exact key e s j C H (.inl ⟨_,J⟩) D h4 F B rfl;rename_i e H J;split at f<;>try cases f
 rename_i s j C D h4 F;split at f<;>try cases f
 rename_i B;exact key e s j C H (.inr J) D h4 F B rfl;rename_i e q H J;split at f<;>try cases f
 rename_i s j C D h4 F;split at f<;>try cases f
 rename_i B;simp only[ak]at d;split at d<;>try cases d
 rename_i i off m cp s2 q2 k g x;split at d<;>try cases d
 rename_i l R;split at d<;>try cases d
 rename_i A;subst A;exact(Xx r H J D h4 F B (ah o g h) (ah G x h) R K).done;cases f;rename_i t t' y z;obtain⟨u,v,rfl,o,G⟩:=T7 I;split at f<;>try cases f
 rename_i e hd;rcases hs:bG P e with _|s;simp[hs]at f;simp only[hs,aeC,aej]at f;subst f;simp only[ak]at d;rcases x:evX T z with _|q;simp only[x,Option.bind_none]at d;split at d<;>simp_all;simp only[x,afO]at d;split at d;rename_i c' new n g V;simp only[aej,aet]at d;obtain⟨rfl,rfl,rfl⟩:=d;exact((Rs r hd hs (ah o g h) (ah G x h) V K).1 rfl).done;rename_i i off m cap Z c' new n g V;split at d<;>try cases d
 rename_i l R;split at d<;>try cases d
 rename_i A;subst A;exact((Rs r hd hs (ah o g h) (ah G x h) V K.1).2 _ _ _ _ _ rfl R K.2.1 K.2.2).done;cases d
 .rename_i t y;obtain⟨u,rfl,o⟩:=Z3 I;split at f<;>try cases f
  rotate_left
  rename_i kt et hd;simp only[ak]at d;split at d<;>try cases d
  rename_i g;exact((Rt r hd (ah o g h)).1 rfl).done;rename_i i g;split at d<;>try cases d
  rename_i es ck Y;exact((Rt r hd (ah o g h)).2 _ _ _ rfl Y).done;rename_i e hd;split at f<;>try cases f
  rename_i s C D F;split at f<;>try cases f
  rename_i B;simp only[ak]at d;split at d<;>try cases d
  rename_i g;exact((PP r hd D F B (ah o g h)).1 rfl).done;rename_i i off m cap Z g;split at d<;>try cases d
  rename_i l R;split at d<;>try cases d
  rename_i A;subst A;exact((PP r hd D F B (ah o g h)).2 _ _ _ _ _ rfl R K).done
 exact M rfl;rename_i y z;obtain⟨u,v,rfl,o,G⟩:=T7 I;cases f;simp only[ak]at d;split at d<;>try cases d
 rename_i k m k' n g x;have N:=ah o g h;have O:=ah G x h;simp only[VR]at N O;refine .same r (v:=.int k (if n>m then n else m)) ?_ (by simp[VR]);simp[builtin,Builtin.max_,Builtin.max2,N,O];rename_i y z;obtain⟨u,v,rfl,o,G⟩:=T7 I;cases f;simp only[ak]at d;split at d<;>try cases d
 rename_i k m k' n g x;have N:=ah o g h;have O:=ah G x h;simp only[VR]at N O;refine .same r (v:=.int k (if n<m then n else m)) ?_ (by simp[VR]);simp[builtin,Builtin.min_,Builtin.min2,N,O];cases f
end
open Go Go.MapKept
section
variable {P:Program}{w0:World}{S0:SB}{E:Env}{L:List Blk}{w:World}{T:Tm}{a:Act}
def kY.desc:kY->TypeDesc->Prop
 |.int,d=>∃k,d=.int k
 |.str,d=>d=.string
 |.bool,d=>d=.bool
 |.st _,_=>False
def kY.flat:kY->Bool
 |.st _=>false
 |_=>true
theorem N1{c:TypeId}{kd:kY}(h:fx P c=some kd)(b:kd.flat=true):∃d,P.underlying c=some d/\kd.desc d:=by
 unfold fx at h;split at h<;>try simp only[aej,reduceCtorEq]at h
 rename_i k a;subst h;exact⟨_,a,k,rfl⟩;rename_i a;subst h;exact⟨_,a,rfl⟩;rename_i a;subst h;exact⟨_,a,rfl⟩;split at h;simp only[aeK]at h;obtain⟨_,_,rfl⟩:=h;cases b;cases h
theorem Rq{kd:kY}{d:TypeDesc}{k q:AV}{u v:Value}{b:Bool}(hd:kd.desc d)(c:kd.flat=true)(i:aT kd k=true)(f:VR E k u)(g:VR E q v)(h:yj k q=some b):Instr.sameNow d u v=some b:=by
 cases kd<;>try (cases c;done)
 all_goals cases k<;>simp only[aT,aeE]at i<;>cases q<;>simp only[yj,reduceCtorEq]at h<;>simp only[VR]at f g<;>subst f<;>subst g<;>simp only[kY.desc]at hd
 obtain⟨k,rfl⟩:=hd;split at h<;>simp only[aej,reduceCtorEq]at h;rename_i e;subst e;subst h;simp only[Instr.sameNow,if_true];rfl;subst hd;simp only[aej]at h;subst h;simp only[Instr.sameNow,aej];rename_i a b;by_cases e:a=b;subst e;simp[bytes_beq];simp only[e,decide_false];rcases h':(({data:={toList:=a}}:ByteArray) == {data:={toList:=b}})with _|_;rfl;have:=(bytes_beq _ _).1 h';simp_all;subst hd;simp only[aej]at h;subst h;rfl
theorem Xh{kd:kY}{c:TypeId}{d:TypeDesc}{k:AV}{u:Value}(a:P.underlying c=some d)(hd:kd.desc d)(f:aT kd k=true)(b:VR E k u)(e:Bool)(n:Nat):(Instr.checkKey e (n+1) c u).run P w=.ok () w:=by
 unfold Instr.checkKey;cases kd<;>try (exact hd.elim)
 all_goals cases k<;>simp only[aT,aeE]at f<;>simp only[VR]at b<;>subst b<;>simp only[kY.desc]at hd
 obtain⟨k,rfl⟩:=hd;simp[aer,run_underlying a,Result.andThen];subst hd;simp[aer,run_underlying a,Result.andThen];subst hd;simp[aer,run_underlying a,Result.andThen]
theorem Zd{kd:kY}{k q:AV}{u v:Value}(a:kd.flat=true)(d:aT kd k=true)(b:VR E k u)(c:VR E q v)(h:yj k q=some true)(n:Nat):Instr.sameBits n v u=true:=by
 cases kd<;>try (cases a;done)
 all_goals cases k<;>simp only[aT,aeE]at d<;>cases q<;>simp only[yj,reduceCtorEq]at h<;>simp only[VR]at b c<;>subst b<;>subst c
 split at h<;>simp only[aej,reduceCtorEq,decide_eq_true_eq]at h;rename_i e;subst e;subst h;simp[Instr.sameBits];simp only[aej,decide_eq_true_eq]at h;subst h;simp[Instr.sameBits,bytes_beq];simp only[aej,decide_eq_true_eq]at h;subst h;simp[Instr.sameBits]
theorem PB{kd:kY}{d:TypeDesc}{k:AV}{u:Value}(hd:kd.desc d)(a:kd.flat=true)(n:aT kd k=true)(f:VR E k u):∀{es:List (AV×AV×Nat)}{rs:List MapEntry}{i:Nat}{r:Option (Nat×AV)},az E es rs->bF k es i=some r ->
  match r with
  |none=>Instr.findNow d u rs i=some none
  |some (j,x)=>∃c e q b,j=i+c/\Instr.findNow d u rs i=some (some (i+c,e.val))/\rs[c]?=some e/\es[c]?=some (q,x,b)/\VR E x e.val/\VR E q e.key/\yj k q=some true
 |[],rs,i,r,hm,h=>by simp only[az]at hm;subst hm;simp only[bF,aej]at h;subst h;rfl
 | (q,x,b)::l,rs,i,r,hm,h=>by
   obtain⟨e,t,rfl,m,s,B,h4⟩:=hm;simp only[bF]at h;split at h
   .rename_i hq;simp only[aej]at h;subst h;have:=Rq hd a n f m hq;exact⟨0,e,q,b,rfl,by simp[Instr.findNow,this],rfl,rfl,s,m,hq⟩
   .rename_i hq;have o:=Rq hd a n f m hq;have g:=PB hd a n f h4 h;cases r with
    |none=>simp only at g⊢;simp[Instr.findNow,o,g]
    | some p =>
      obtain⟨j,y⟩:=p;obtain⟨c,A,w,v,rfl,g1,z,g3,g4⟩:=g;exact⟨c+1,A,w,v,ahd,by simp[Instr.findNow,o,g1];omega,by simpa using z,by simpa using g3,g4⟩
   .cases h
theorem abx{t:TypeId}{k:zg}(h:UQ P t=some k)(e:Bool)(n:Nat)(v:Value)(w:World):(Instr.checkKey e (n+1) t v).run P w=.ok () w:=by unfold Instr.checkKey;rcases Mk h with⟨_,q,a⟩|⟨_,a⟩|⟨_,a⟩<;>simp[aer,run_underlying a,Result.andThen]
theorem ZU{d:TypeId}{a:List zg}{b:Array Field}{cs:Array Value}(r:P.underlying d=some (.struct b))(o:GB P 0 b.toList a)(s:a.length<=cs.size)(e:Bool)(n:Nat)(w:World):
  (Instr.checkKey e (n+2) d (.agg cs)).run P w=.ok () w:=by
 have key:∀ (l:List Field) (a:List zg) (i:Nat),GB P i l a->i+a.length<=cs.size->∀ (body:Field->PUnit->Sem (ForInStep PUnit)),(∀ f u,body f u=if f.name ≠ "_" then (do let x <- part f.type cs f.offset;Instr.checkKey e (n+1) f.type x;pure (ForInStep.yield PUnit.unit)) else pure (ForInStep.yield PUnit.unit))->(forIn l PUnit.unit body).run P w=.ok PUnit.unit w:=by
  intro l;induction l with
  |nil=>intro a i _ _ body _;simp
  | cons f l ih =>
    intro a i h g body m;cases a with
    |nil=>simp[GB]at h
    | cons k a =>
      obtain⟨j,p,c,h4⟩:=h;simp only[aeB]at g;obtain⟨v,q⟩:∃v,cs[i]?=some v:=⟨_,ae7 ahd⟩;rw[List.forIn_cons,m,if_pos p,j];simp only[aer,UI c q,abx c,aes,aeP]
      grind
 unfold Instr.checkKey;simp only[aer,run_underlying r,aes];have:=key b.toList a 0 o ahd _ (λf u=>rfl);simp_all
theorem N9{c:TypeId}{z:List zg}{v:Array Field}(n:P.underlying c=some (.struct v))(d:P.stoodInHeld c=false)(m:GB P 0 v.toList z){l:List AV}{u:Value}(o:sj z l=true)(f:VR E (.agg l) u)(w:World):∀{es:List (AV×AV×Nat)}{rs:List MapEntry}{i:Nat}{r:Option (Nat×AV)},az E es rs->bF (.agg l) es i=some r ->
  match r with
  |none=>(Instr.findAsking c u rs i).run P w=.ok none w
  |some (j,x)=>∃a e q b,j=i+a/\(Instr.findAsking c u rs i).run P w=.ok (some (i+a,e.val)) w/\rs[a]?=some e/\es[a]?=some (q,x,b)/\VR E x e.val/\VR E q e.key/\yj (.agg l) q=some true
 |[],rs,i,r,hm,h=>by simp only[az]at hm;subst hm;simp only[bF,aej]at h;subst h;rfl
 | (q,x,b)::es,rs,i,r,hm,h=>by
   obtain⟨e,t,rfl,k,A,G,h4⟩:=hm;simp only[bF]at h;split at h
   .rename_i hq;simp only[aej]at h;subst h;have:=PV n d m o f k hq w;exact⟨0,e,q,b,rfl,by simp[Instr.findAsking,this],rfl,rfl,A,k,hq⟩
   .rename_i hq;have s:=PV n d m o f k hq w;have g:=N9 n d m o f w h4 h;cases r with
    |none=>simp only at g⊢;simp[Instr.findAsking,s,g]
    | some p =>
      obtain⟨j,y⟩:=p;obtain⟨a,F,C,B,rfl,g1,D,g3,g4⟩:=g;exact⟨a+1,F,C,B,ahd,by simp[Instr.findAsking,s,g1];omega,by simpa using D,by simpa using g3,g4⟩
   .cases h
theorem ZZ:∀{l m:List AV}{us vs:List Value}{d:List zg}(n:Nat),sj d l=true->VRL E l us->VRL E m vs->DN l m=some true->us.length=vs.length/\((vs.zip us).all λ(x,y)=>Instr.sameBits n x y)=true
 | [],m,us,vs,d,n,hp,hl,hm,hq=>by
   cases m with
   |cons b m=>simp[DN]at hq
   |nil=>simp only[VRL]at hl hm;subst hl;subst hm;simp
 | a::l,m,us,vs,d,n,hp,hl,hm,hq=>by
   cases m with
   |nil=>simp[DN]at hq
   | cons b m =>
     cases d with
     |nil=>simp[sj]at hp
     | cons k d =>
       simp only[sj,aeq]at hp;obtain⟨u,p,rfl,i,f⟩:=hl;obtain⟨v,q,rfl,h,g⟩:=hm;simp only[DN]at hq;cases hk:PG a b with
       |none=>rw[hk]at hq;cases hq
       | some c =>
         rw[hk]at hq;cases c with
         |false=>simp at hq
         | true =>
           obtain⟨o,j⟩:=ZZ n hp.2 f g hq;refine⟨by simp[o],?_⟩;simp only[List.zip_cons_cons,afl,j,af1];cases a<;>cases b<;>simp only[PG,reduceCtorEq]at hk<;>simp only[VR]at i h<;>subst i<;>subst h
           .simp only[aej,decide_eq_true_eq]at hk;subst hk;simp[Instr.sameBits]
           .split at hk<;>simp only[aej,reduceCtorEq,decide_eq_true_eq]at hk;rename_i e;subst e;subst hk;simp[Instr.sameBits]
           .simp only[aej,decide_eq_true_eq]at hk;subst hk;simp[Instr.sameBits,bytes_beq]
theorem lR{kd:kY}{i:TypeId}{k:AV}{u:Value}(a:fx P i=some kd)(c:aT kd k=true)(g:VR E k u)(e:Bool):(Instr.checkKey e 10000 i u).run P w=.ok () w:=by
 cases hfl:kd.flat with
 | true =>
   obtain⟨d,b,h⟩:=N1 a hfl;exact Xh b h c g e 9999
 | false =>
   cases kd<;>simp only[kY.flat,reduceCtorEq]at hfl;obtain⟨l,b,h,j⟩:=Ml a;cases k<;>simp only[aT,aeE]at c;obtain⟨us,rfl,f⟩:=g;exact ZU b j (by rw[Rf c];simp[f.length]) e 9998 w
theorem Xi{kd:kY}{k q:AV}{u v:Value}(b:aT kd k=true)(d:VR E k u)(e:VR E q v)(h:yj k q=some true):Instr.sameBits 10000 v u=true:=by
 cases hfl:kd.flat with
 |true=>exact Zd hfl b d e h 10000
 | false =>
   cases kd<;>simp only[kY.flat,reduceCtorEq]at hfl;cases k<;>simp only[aT,aeE]at b;cases q<;>simp only[yj,reduceCtorEq]at h;obtain⟨us,rfl,a⟩:=d;obtain⟨vs,rfl,c⟩:=e;obtain⟨f,g⟩:=ZZ 9999 b a c h;simp only[Instr.sameBits,g,af1];simp[f]
theorem yo{kd:kY}{f:TypeId}{k:AV}{u:Value}(c:fx P f=some kd)(i:aT kd k=true)(n:VR E k u){es:List (AV×AV×Nat)}{rs:List MapEntry}{r:Option (Nat×AV)}(m:az E es rs)(h:bF k es 0=some r)(w:World):
  match r with
  |none=>(Instr.findKey f u rs).run P w=.ok none w
  |some (j,x)=>∃e q b,(Instr.findKey f u rs).run P w=.ok (some (j,e.val)) w/\rs[j]?=some e/\es[j]?=some (q,x,b)/\VR E x e.val/\VR E q e.key/\yj k q=some true:=by
 cases hfl:kd.flat with
 | true =>
   obtain⟨d,a,l⟩:=N1 c hfl;have g:=PB l hfl i n m h;cases r with
   |none=>exact run_findKey a g
   | some p =>
     obtain⟨j,x⟩:=p;obtain⟨y,e,q,b,rfl,g1,t,g3,g4⟩:=g;exact⟨e,q,b,by have:=run_findKey (P:=P) (w:=w) a g1;exact this,by simpa using t,by simpa using g3,g4⟩
 | false =>
   cases kd<;>simp only[kY.flat,reduceCtorEq]at hfl;obtain⟨v,a,l,s⟩:=Ml c;cases k<;>simp only[aT,aeE]at i;have g:=N9 a l s i n w m h;have o:(Instr.findKey f u rs).run P w=(Instr.findAsking f u rs 0).run P w:=by
    simp only[Instr.findKey,aer,run_underlying a,aes];cases rs with
    |nil=>simp[Instr.findNow,Instr.findAsking]
    |cons e rs=>simp[Instr.findNow,Instr.sameNow]
   grind
theorem Vc{t c a:TypeId}(b:Rel w0 S0 E L w)(hd:P.underlying t=some (.map c a)):bK P w0 S0 E (L++[.map [] 0]) (.lmap L.length) w (Instr.makeMap t none):=by have:=b.push (.map #[] 0) (.map [] 0) ⟨w.heap.size,0,0⟩ rfl rfl ⟨⟨w.heap.size,0,0⟩,#[],ahe,ahe,rfl⟩;refine⟨_,.map (some w.heap.size),_,?_,this.1,?_,this.2⟩;rfl;simp only[VR];simp
theorem Sx{t:TypeId}{a:AV}(h:X5 P t=some a):∃v,(∀w,(zeroValue t).run P w=.ok v w)/\VR E a v:=by unfold X5 at h;simp only[af2]at h;obtain⟨v,⟨i,b,c⟩,d⟩:=h;exact⟨v,λw=>by simp[zeroValue,typeInfo,b,c],PC d⟩
theorem OT(a:Rel w0 S0 E L w){i:Nat}{es:List (AV×AV×Nat)}{ck:Nat}{u:Value}(b:L[i]?=some (.map es ck))(d:VR E (.lmap i) u):
  ∃c rs,E.loc i=some c/\u=.map (some c.blk)/\w.heap[c.blk]?=some (.map rs ck)/\az E es rs.toList:=by
 simp only[VR]at d;obtain⟨c',rs,e,f,g⟩:=a.blk i _ b;simp_all
theorem Vd{t b i:TypeId}{kd:kY}{z k:AV}{u v:Value}(ok:Bool)(l:Rel w0 S0 E L w)(hd:P.underlying t=some (.map b i))(a:fx P b=some kd)(m:X5 P i=some z)(h:VR E .nilmap u)(g:aT kd k=true)(f:VR E k v):
  bK P w0 S0 E L (if ok then .tup [z,.bool false]else z) w (Instr.lookup t u v ok):=by
 simp only[VR]at h;subst h;obtain⟨d,j,h4⟩:=Sx (E:=E) m;have n:∀e,(Instr.checkKey e 10000 b v).run P w=.ok () w:=λe=>lR a g f e
 have c:(Instr.findKey b v []).run P w=.ok none w:=yo (E:=E) (es:=[]) (r:=none) a g f (by simp[az]) (by simp[bF]) w;refine .same l (v:=if ok then .tuple #[d,.bool false]else d) ?_ ?_
 .simp[Instr.lookup,run_underlying hd,n,c,j]
  try (cases ok<;>rfl)
 cases ok;simp[*];simp only[if_true,VR];exact⟨[d,.bool false],rfl,by simp[VRL,VR,h4]⟩
theorem Xr{t h B:TypeId}{kd:kY}{z k av:AV}{u v:Value}{i ck:Nat}{es:List (AV×AV×Nat)}{r:Option (Nat×AV)}(ok:Bool)(m:Rel w0 S0 E L w)(hd:P.underlying t=some (.map h B))(d:fx P h=some kd)(F:X5 P B=some z)(D:L[i]?=some (.map es ck))(I:VR E (.lmap i) u)(y:aT kd k=true)(o:VR E k v)(C:bF k es 0=some r)(f:av=match r with|some (_,x)=>if ok then .tup [x,.bool true]else x|none=>if ok then .tup [z,.bool false]else z):
  bK P w0 S0 E L av w (Instr.lookup t u v ok):=by
 obtain⟨c,rs,K,rfl,G,n⟩:=OT m D I;obtain⟨l,H,h4⟩:=Sx (E:=E) F;have g:∀e,(Instr.checkKey e 10000 h v).run P w=.ok () w:=λe=>lR d y o e
 have A:(getObj c.blk).run P w=.ok (.map rs ck) w:=by simp[getObj,Sem.run,G]
 have s:=yo d y o n C w;cases r with
 | none =>
   subst f;have a:(Instr.findKey h v rs.toList).run P w=.ok none w:=s;refine .same m (v:=if ok then .tuple #[l,.bool false]else l) ?_ ?_
   .simp[Instr.lookup,run_underlying hd,A,g,a,H]
    try (cases ok<;>rfl)
   .cases ok
    .simp[*]
    .simp only[if_true,VR];exact⟨[l,.bool false],rfl,by simp[VRL,VR,h4]⟩
 | some p =>
   obtain⟨j,x⟩:=p;subst f;obtain⟨e,q,b,a,J,g3,g4,_⟩:=s;refine .same m (v:=if ok then .tuple #[e.val,.bool true]else e.val) ?_ ?_
   .simp[Instr.lookup,run_underlying hd,A,g,a]
    try (cases ok<;>rfl)
   .cases ok
    .simp[*]
    .simp only[if_true,VR];exact⟨[e.val,.bool true],rfl,by simp[VRL,VR,g4]⟩
theorem az.app{es:List (AV×AV×Nat)}{k x:AV}{e:MapEntry}:∀{rs:List MapEntry},az E es rs->VR E k e.key->VR E x e.val->az E (es++[(k,x,e.born)]) (rs++[e]):=by
 induction es with
 |nil=>intro rs h c a;simp only[az]at h;subst h;exact⟨e,[],rfl,c,a,rfl,rfl⟩
 | cons p es ih =>
   intro rs h c a;obtain⟨q,y,b⟩:=p;obtain⟨f,t,rfl,g1,d,g3,g4⟩:=h;exact⟨f,t++[e],rfl,g1,d,g3,ih g4 c a⟩
theorem az.put{k x:AV}{u v:Value}(a:VR E k u)(d:VR E x v):∀{es:List (AV×AV×Nat)}{rs:List MapEntry}{j:Nat},az E es rs->az E (UN k x es j) (rs.modify j λe=>{e with key:=u,val:=v})
 |[],rs,j,h=>by simp only[az]at h;subst h;simp[UN,az]
 |(q,y,b)::es,rs,0,h=>by obtain⟨f,t,rfl,g1,c,g3,g4⟩:=h;exact⟨{f with key:=u,val:=v},t,rfl,a,d,g3,g4⟩
 |(q,y,b)::es,rs,j+1,h=>by obtain⟨f,t,rfl,g1,c,g3,g4⟩:=h;exact⟨f,t.modify j λe=>{e with key:=u,val:=v},ahe,g1,c,g3,az.put a d (j:=j) g4⟩
theorem Xq{t C S:TypeId}{kd:kY}{k x:AV}{u v y:Value}{i ck:Nat}{es:List (AV×AV×Nat)}{r:Option (Nat×AV)}(M:Rel w0 S0 E L w)(hd:P.underlying t=some (.map C S))(m:fx P C=some kd)(K:L[i]?=some (.map es ck))(U:VR E (.lmap i) u)(D:aT kd k=true)(l:VR E k v)(N:VR E x y)(Q:bF k es 0=some r):∃w',(Instr.mapUpdate t u v y).run P w=.ok () w'/\Rel w0 S0 E (L.set i (match r with|some (j,_)=>.map (UN k x es j) ck|none=>.map (es++[(k,x,ck)]) (ck+1))) w':=by
 obtain⟨c,rs,O,rfl,s,g⟩:=OT M K U;have n:∀e,(Instr.checkKey e 10000 C v).run P w=.ok () w:=λe=>lR m D l e
 have J:(getObj c.blk).run P w=.ok (.map rs ck) w:=by simp[getObj,Sem.run,s]
 have I:=yo m D l g Q w;have F:c.blk<w.heap.size:=(ae1.1 s).1;have B:∀o,(setObj c.blk o).run P w=.ok () {w with heap:=w.heap.setIfInBounds c.blk o}:=λo=>by simp[setObj,Sem.run,s]
 have turn:∀a d f,az E f (a:Array MapEntry).toList->Rel w0 S0 E (L.set i (.map f d)) {w with heap:=w.heap.setIfInBounds c.blk (.map a d)}:=λa d f H =>
  M.turn (w':={w with heap:=w.heap.setIfInBounds c.blk (.map a d)}) (k':=.map f d) K rfl O ahe (λb s=>by simp[agb,Ne.symm s]) rfl rfl rfl
   ⟨c,a,O,by simp[F],H⟩ (λ_ _ e=>by cases e)
 cases r with
 | none =>
   have h:(Instr.findKey C v rs.toList).run P w=.ok none w:=I;refine⟨_,?_,turn (rs.push {key:=v,val:=y,born:=ck}) (ck+1) _ (by simpa using az.app (e:={key:=v,val:=y,born:=ck}) g l N)⟩;simp[Instr.mapUpdate,run_underlying hd,J,n,h,B]
 | some p =>
   obtain⟨j,z⟩:=p;obtain⟨e,q,b,h,V,g3,g4,T,R⟩:=I;have G:(Instr.keyThatStays e.key v).run P w=.ok v w:=by simp[Instr.keyThatStays,Xi D l T R]
   have A:rs[j]?=some e:=(by simpa using V);refine⟨_,?_,turn (rs.modify j λe=>{e with key:=v,val:=y}) ck _ (by simpa using az.put l N (j:=j) g)⟩;simp[Instr.mapUpdate,run_underlying hd,J,n,h,A,G,B]
end
open Go Go.MapKept
section
variable {P:Program}{w0:World}{S0:SB}{E:Env}{L:List Blk}{w:World}{T:Tm}{a:Act}
theorem az.filt{p:Nat->Bool}:∀{es:List (AV×AV×Nat)}{rs:List MapEntry},az E es rs->az E (es.filter λe=>p e.2.2) (rs.filter λe=>p e.born)
 |[],rs,h=>by simp only[az]at h;subst h;rfl
 | (k,x,b)::es,rs,h=>by
   obtain⟨f,t,rfl,g1,a,g3,g4⟩:=h;have c:=az.filt (p:=p) g4;subst g3;simp only[List.filter_cons];split
   .exact⟨f,_,rfl,g1,a,rfl,c⟩
   omega
theorem az.all{p:Nat->Bool}:∀{es:List (AV×AV×Nat)}{rs:List MapEntry},az E es rs->(rs.all λe=>p e.born)=es.all λe=>p e.2.2
 |[],rs,h=>by simp only[az]at h;subst h;rfl
 |(k,x,b)::es,rs,h=>by obtain⟨f,t,rfl,g1,a,g3,g4⟩:=h;subst g3;simp only[afl,az.all (p:=p) g4]
theorem az.nil_iff{es:List (AV×AV×Nat)}{rs:List MapEntry}(h:az E es rs):rs.isEmpty=es.isEmpty:=by
 cases es with
 |nil=>simp only[az]at h;subst h;rfl
 |cons p es=>obtain⟨k,x,b⟩:=p;obtain⟨f,t,rfl,_⟩:=h;rfl
theorem az.len:∀{es:List (AV×AV×Nat)}{rs:List MapEntry},az E es rs->rs.length=es.length
 |[],rs,h=>by simp only[az]at h;subst h;rfl
 |(k,x,b)::es,rs,h=>by obtain⟨f,t,rfl,_,_,_,g4⟩:=h;simp[az.len g4]
theorem R1{t d b:TypeId}{v:Value}(c:Rel w0 S0 E L w)(hd:P.underlying t=some (.map d b))(a:VR E .nilmap v):
  bK P w0 S0 E (L++[.miter none 0 [] 0]) (.ptr L.length 0) w (Instr.range t v):=by
 simp only[VR]at a;subst a;have:=c.push (.mapIter none 0 #[] 0) (.miter none 0 [] 0) ⟨w.heap.size,0,0⟩ rfl rfl ⟨⟨w.heap.size,0,0⟩,none,ahe,ahe,rfl,rfl⟩;refine⟨_,.pointer (some ⟨w.heap.size,0,none⟩),_,?_,this.1,?_,this.2⟩;simp[Instr.range,run_underlying hd];simp only[VR];exact⟨⟨w.heap.size,0,0⟩,ahe,rfl⟩
theorem TD{t f h:TypeId}{v:Value}{i ck:Nat}{es:List (AV×AV×Nat)}(b:Rel w0 S0 E L w)(hd:P.underlying t=some (.map f h))(a:L[i]?=some (.map es ck))(e:VR E (.lmap i) v):
  bK P w0 S0 E (L++[.miter (some i) ck [] ck]) (.ptr L.length 0) w (Instr.range t v):=by
 obtain⟨c,rs,l,rfl,k,j⟩:=OT b a e;have g:i<L.length:=(aei.1 a).1;have:=b.push (.mapIter (some c.blk) ck #[] ck) (.miter (some i) ck [] ck) ⟨w.heap.size,0,0⟩ rfl rfl ⟨⟨w.heap.size,0,0⟩,some c.blk,ahe,ahe,rfl,c,by simp only;rw[if_neg ahd];exact l,rfl⟩;refine⟨_,.pointer (some ⟨w.heap.size,0,none⟩),_,?_,this.1,?_,this.2⟩;have d:(getObj c.blk).run P w=.ok (.map rs ck) w:=by simp[getObj,Sem.run,k]
 simp[Instr.range,run_underlying hd,d];simp only[VR];exact⟨⟨w.heap.size,0,0⟩,ahe,rfl⟩
theorem Vb{t:TypeId}{v:Value}{i j ck a last:Nat}{seen:List Nat}{es:List (AV×AV×Nat)}{r:Option (AV×AV×Nat)}(B:Rel w0 S0 E L w)(N:L[i]?=some (.miter (some j) a seen last))(X:L[j]?=some (.map es ck))(R:VR E (.ptr i 0) v)(y:Y6 es a seen last=some r):
  bK P w0 S0 E (Rj L i j a seen ck r) (Lz r) w (Instr.next v false t):=by
 obtain⟨c,J,rfl⟩:=R;obtain⟨c',q,K,G,O,d,h4,rfl⟩:=B.blk i _ N;rw[J]at K;cases K;obtain⟨Y,rs,g1,W,g3⟩:=B.blk j _ X;rw[h4]at g1;cases g1;have F:c.blk<w.heap.size:=(ae1.1 G).1;have M:(getObj c.blk).run P w=.ok (.mapIter (some d.blk) a ⟨seen⟩ last) w:=by simp[getObj,Sem.run,G]
 have z:(getObj d.blk).run P w=.ok (.map rs ck) w:=by simp[getObj,Sem.run,W]
 have I:∀o,(setObj c.blk o).run P w=.ok () {w with heap:=w.heap.setIfInBounds c.blk o}:=λo=>by simp[setObj,Sem.run,G]
 rw[O];unfold Y6 at y;split at y;simp_all;rename_i C;have g:(!(⟨seen⟩:Array Nat).isEmpty && !rs.isEmpty&&rs.all λe=>decide (e.born≥last))=false:=by
  have e2:rs.isEmpty=es.isEmpty:=(by rw[<- g3.nil_iff];simp);have Z:(rs.all λe=>decide (e.born≥last))=es.all λe=>decide (last<=e.2.2):=by rw[<- az.all (p:=λb=>decide (last<=b)) g3];simp
  simp[*]
 have u:=az.filt (p:=λb => !seen.contains b) g3;have n:=az.filt (p:=λb=>decide (b<a)) u;have m:=az.filt (p:=λb=>decide (a<=b)) u;have A:∀p:MapEntry->Bool,(rs.filter λe => !(⟨seen⟩:Array Nat).contains e.born).filter p=⟨(rs.toList.filter λe => !seen.contains e.born).filter p⟩:=λp=>by apply Array.toList_inj.1;simp
 split at y;rename_i D H;simp only[aej]at y;subst y;rw[D]at n;rw[H]at m;refine .same B (v:=.tuple #[.bool false]) ?_ (by simp[Lz,VR,VRL]);have l:((rs.filter λe => !(⟨seen⟩:Array Nat).contains e.born).filter λe=>decide (e.born<a))=#[]:=by rw[A,n]
 have h:((rs.filter λe => !(⟨seen⟩:Array Nat).contains e.born).filter λe=>decide (e.born≥a))=#[]:=by rw[A];exact congrArg Array.mk m
 simp only[Instr.next,aer,M,z,aes,g,aeE,if_false,l,h];simp[Question.forced];rename_i e D H;simp only[aej]at y;subst y;rw[D]at n;rw[H]at m;obtain⟨k,x,b⟩:=e;obtain⟨f,s,Q,S,T,V,rfl⟩:=n;subst V;have l:((rs.filter λe => !(⟨seen⟩:Array Nat).contains e.born).filter λe=>decide (e.born<a))=#[f]:=by rw[A,Q]
 have h:((rs.filter λe => !(⟨seen⟩:Array Nat).contains e.born).filter λe=>decide (e.born≥a))=#[]:=by rw[A];exact congrArg Array.mk m
 have turn:=B.turn (w':={w with heap:=w.heap.setIfInBounds c.blk (.mapIter (some d.blk) a ((⟨seen⟩:Array Nat).push f.born) ck)}) (k':=.miter (some j) a (seen++[f.born]) ck) N rfl J ahe (λb U=>by simp[agb,Ne.symm U]) rfl rfl rfl
  ⟨c,some d.blk,J,by simp[F],O,d,h4,rfl⟩ (λ_ _ e=>by cases e)
 refine⟨E,.tuple #[.bool true,f.key,f.val],_,?_,.refl E,?_,turn⟩;simp only[Instr.next,aer,M,z,aes,g,aeE,if_false,l,h];simp[Question.forced,I];exact⟨[.bool true,f.key,f.val],rfl,.bool true,[f.key,f.val],rfl,rfl,f.key,[f.val],rfl,S,f.val,[],rfl,T,rfl⟩;cases y
theorem TE{t:TypeId}{v:Value}{i a last:Nat}{seen:List Nat}(d:Rel w0 S0 E L w)(f:L[i]?=some (.miter none a seen last))(g:VR E (.ptr i 0) v):
  bK P w0 S0 E L (.tup [.bool false]) w (Instr.next v false t):=by
 obtain⟨c,k,rfl⟩:=g;obtain⟨c',q,b,h,j,h4⟩:=d.blk i _ f;rw[k]at b;cases b;simp only[MIt]at h4;subst h4;have e:(getObj c.blk).run P w=.ok (.mapIter none a ⟨seen⟩ last) w:=by simp[getObj,Sem.run,h]
 rw[j];exact .same d (v:=.tuple #[.bool false]) (by simp[Instr.next,e]) (by simp[VR,VRL])
theorem az.fnd{b:Nat}:∀{es:List (AV×AV×Nat)}{rs:List MapEntry}{e:AV×AV×Nat},az E es rs->es.find? (λe=>Nat.beq e.2.2 b)=some e->∃f,rs.find? (λe=>e.born == b)=some f/\VR E e.1 f.key/\VR E e.2.1 f.val
 |[],rs,e,h,he=>by simp at he
 | (k,x,c)::es,rs,e,h,he=>by
   obtain⟨f,t,rfl,g1,d,g3,g4⟩:=h;subst g3;simp only[afo]at he⊢;have a:(f.born == b)=Nat.beq f.born b:=by
    cases hh:Nat.beq f.born b with
    |true=>rw[agV hh];simp
    | false =>
      have:f.born≠b:=λe=>by rw[e,Nat.beq_refl]at hh;cases hh
      simp[*]
   rw[a];split at he
   .grind
   .rename_i hb;exact az.fnd g4 he
theorem TF{v:Value}{i j ck g a:Nat}{seen:List Nat}{es:List (AV×AV×Nat)}{e:AV×AV×Nat}(n:Rel w0 S0 E L w)(z:L[i]?=some (.miter (some j) g seen a))(D:L[j]?=some (.map es ck))(A:VR E (.ptr i 0) v)(k:mat es ck seen a=some e):bK P w0 S0 E L (.tup [e.1,e.2.1]) w (Instr.entry v):=by
 obtain⟨c,F,rfl⟩:=A;obtain⟨c',q,o,B,C,d,h4,rfl⟩:=n.blk i _ z;rw[F]at o;cases o;obtain⟨G,rs,g1,y,g3⟩:=n.blk j _ D;rw[h4]at g1;cases g1;have s:(getObj c.blk).run P w=.ok (.mapIter (some d.blk) g ⟨seen⟩ a) w:=by simp[getObj,Sem.run,B]
 have m:(getObj d.blk).run P w=.ok (.map rs ck) w:=by simp[getObj,Sem.run,y]
 unfold mat at k;split at k;rename_i b p;split at k;rename_i l;obtain⟨f,t,u,x⟩:=az.fnd g3 k;have h:(⟨seen⟩:Array Nat).back?=some b:=by rw[List.getLast?_eq_getElem?]at p;simpa[Array.back?]using p
 have r:rs.find? (λe=>e.born == b)=some f:=by rw[<- t];simp
 rw[C];refine .same n (v:=.tuple #[f.key,f.val]) ?_ (by simp only[VR,VRL];exact⟨[f.key,f.val],rfl,f.key,[f.val],rfl,u,f.val,[],rfl,x,rfl⟩);simp[Instr.entry,s,m,h,l,r];simp_all;simp_all
theorem az.del:∀{es:List (AV×AV×Nat)}{rs:List MapEntry}{j:Nat},az E es rs->az E (es.eraseIdx j) (rs.eraseIdx j)
 |[],rs,j,h=>by simp only[az]at h;subst h;simp[az]
 |(k,x,b)::es,rs,0,h=>by obtain⟨f,t,rfl,_,_,_,g4⟩:=h;simpa using g4
 |(k,x,b)::es,rs,j+1,h=>by obtain⟨f,t,rfl,g1,a,g3,g4⟩:=h;exact⟨f,t.eraseIdx j,ahe,g1,a,g3,az.del g4⟩
theorem Xs{t x K t' ty:TypeId}{kd:kY}{k:AV}{u v:Value}{i ck:Nat}{cs:Array Bool}{es:List (AV×AV×Nat)}{r:Option (Nat×AV)}(H:Rel w0 S0 E L w)(hd:P.underlying t=some (.map x K))(l:fx P x=some kd)(G:L[i]?=some (.map es ck))(M:VR E (.lmap i) u)(D:aT kd k=true)(B:VR E k v)(J:bF k es 0=some r):∃w',(builtin .delete ⟨[t,t']⟩ ty cs ⟨[u,v]⟩).run P w=.ok (.value (.tuple #[])) w'/\Rel w0 S0 E (L.set i (match r with|some (j,_)=>.map (es.eraseIdx j) ck|none=>.map es ck)) w':=by
 obtain⟨c,rs,I,rfl,n,g⟩:=OT H G M;have m:∀e,(Instr.checkKey e 10000 x v).run P w=.ok () w:=λe=>lR l D B e
 have F:(getObj c.blk).run P w=.ok (.map rs ck) w:=by simp[getObj,Sem.run,n]
 have C:=yo l D B g J w;have y:c.blk<w.heap.size:=(ae1.1 n).1;have s:∀o,(setObj c.blk o).run P w=.ok () {w with heap:=w.heap.setIfInBounds c.blk o}:=λo=>by simp[setObj,Sem.run,n]
 have turn:∀a d f,az E f (a:Array MapEntry).toList->Rel w0 S0 E (L.set i (.map f d)) {w with heap:=w.heap.setIfInBounds c.blk (.map a d)}:=λa d f A =>
  H.turn (w':={w with heap:=w.heap.setIfInBounds c.blk (.map a d)}) (k':=.map f d) G rfl I ahe (λb n=>by simp[agb,Ne.symm n]) rfl rfl rfl
   ⟨c,a,I,by simp[y],A⟩ (λ_ _ e=>by cases e)
 cases r with
 | none =>
   have h:(Instr.findKey x v rs.toList).run P w=.ok none w:=C;refine⟨_,?_,turn rs ck es g⟩;simp[builtin,Builtin.delete_,run_underlying hd,F,m,h,s]
 | some p =>
   obtain⟨j,z⟩:=p;obtain⟨e,q,b,h,Q,g3,g4,O,N⟩:=C;refine⟨_,?_,turn (rs.eraseIdxIfInBounds j) ck (es.eraseIdx j) (by simpa using az.del g)⟩;simp[builtin,Builtin.delete_,run_underlying hd,F,m,h,s]
theorem Ve{t c f t' ty:TypeId}{kd:kY}{k:AV}{u v:Value}{cs:Array Bool}(i:Rel w0 S0 E L w)(hd:P.underlying t=some (.map c f))(b:fx P c=some kd)(d:VR E .nilmap u)(h:aT kd k=true)(g:VR E k v):
  (builtin .delete ⟨[t,t']⟩ ty cs ⟨[u,v]⟩).run P w=.ok (.value (.tuple #[])) w:=by
 simp only[VR]at d;subst d;have a:∀e,(Instr.checkKey e 10000 c v).run P w=.ok () w:=λe=>lR b h g e
 simp[builtin,Builtin.delete_,run_underlying hd,a]
theorem aaP{own:Nat}{ts:List TypeId}{xs:List Operand}{u:List Opd}{ty:TypeId}{cs:Array Bool}{p:LOp}{c:Prop}{av:AV}{L':List Blk}(l:Rel w0 S0 E L w)(f:TR E T a)(B:ni xs=some u)(d:cj P own .delete ts u=some p)(b:ak T L p=some (c,av,L')):dw P w0 S0 E L' av w (builtin .delete ⟨ts⟩ ty cs ⟨xs.map a.eval⟩):=by
 unfold cj at d;split at d<;>try (rename_i C;cases C)
 rename_i t t' m k _;obtain⟨x,y,rfl,s,q⟩:=T7 B;split at d<;>try cases d
 rename_i A F hd;rcases h4:fx P A with _|kd<;>simp[h4]at d;subst d;simp only[ak]at b;split at b<;>try cases b
 rename_i z n g;split at b<;>cases b;rename_i h;exact .same l (v:=.tuple #[]) (Ve l hd h4 (ah s n f) h (ah q g f)) (by simp[VR,VRL]);rename_i i z n g;split at b<;>try cases b
 rename_i es ck D;split at b<;>try cases b
 rename_i h;have go:=λr e=>Xs (P:=P) (t':=t') (ty:=ty) (cs:=cs) (r:=r) l hd h4 D (ah s n f) h (ah q g f) e
 split at b<;>cases b;rename_i j G e;obtain⟨w',g1,o⟩:=go _ e;exact⟨E,.tuple #[],w',.inl g1,.refl E,by simp[VR,VRL],o⟩;rename_i e;obtain⟨w',g1,o⟩:=go _ e;exact⟨E,.tuple #[],w',.inl g1,.refl E,by simp[VR,VRL],o⟩;simp_all
end
section
variable {P:Program}{w0:World}{S0:SB}{E:Env}{L:List Blk}{w:World}{T:Tm}{a:Act}
def LOp.isCall:LOp->Bool
 |.call _ _|.callv _ _=>true
 |_=>false
set_option maxHeartbeats 1000000 in
theorem R8{own:Nat}{o:Oper}{lo:LOp}{c:Prop}{av:AV}{L':List Blk}(hR:Rel w0 S0 E L w)(hT:TR E T a)(hl:jX P own o.op=some lo)(hnc:lo.isCall=false)(he:ak T L lo=some (c,av,L'))(hc:c):
  dw P w0 S0 E L' av w (execOp a.eval o):=by
 obtain⟨dst,op,ty,pos,after,guard⟩:=o;cases op<;>simp only[jX]at hl<;>try cases hl
 case move x =>
  show dw P w0 S0 E L' av w (pure (.value (a.eval x)));rcases h1:aY x with _|y<;>simp[h1]at hl;subst hl;simp only[ak]at he;rcases h2:evX T y with _|u<;>simp only[h2,aeT,aeC,reduceCtorEq,aej,aet]at he;obtain⟨rfl,rfl,rfl⟩:=he;exact .same hR rfl (ah h1 h2 hT)
 case assign x =>
  show dw P w0 S0 E L' av w (pure (.value (a.eval x)));rcases h1:aY x with _|y<;>simp[h1]at hl;subst hl;simp only[ak]at he;rcases h2:evX T y with _|u<;>simp only[h2,aeT,aeC,reduceCtorEq,aej,aet]at he;obtain⟨rfl,rfl,rfl⟩:=he;exact .same hR rfl (ah h1 h2 hT)
 case pick x y z =>
  show dw P w0 S0 E L' av w (do pure (.value (if <- asBool (a.eval x)then a.eval y else a.eval z)));split at hl<;>try cases hl
  rename_i x' y' z' h1 h2 h3;simp only[ak]at he;split at he<;>try cases he
  all_goals
   rename_i h4;have hx:=ah h1 h4 hT;simp only[VR]at hx
  .rcases h5:evX T y' with _|u<;>simp only[h5,aeT,aeC,reduceCtorEq,aej,aet]at he;obtain⟨rfl,rfl,rfl⟩:=he;exact .same hR (by simp[hx,asBool]) (ah h2 h5 hT)
  .rcases h5:evX T z' with _|u<;>simp only[h5,aeT,aeC,reduceCtorEq,aej,aet]at he;obtain⟨rfl,rfl,rfl⟩:=he;exact .same hR (by simp[hx,asBool]) (ah h3 h5 hT)
 case alloc t =>
  show dw P w0 S0 E L' av w (do pure (.value (<- Instr.alloc t true (.tuple #[]))));rcases h1:zOf P t with _|z<;>simp[h1]at hl;subst hl;simp only[ak,aej,aet]at he;obtain⟨rfl,rfl,rfl⟩:=he;exact(Vh hR h1).done
 case box t x =>
  show dw P w0 S0 E L' av w (do pure (.value (<- Instr.box t (a.eval x))));rcases h1:aY x with _|y<;>simp[h1]at hl;subst hl;simp only[ak]at he;rcases h2:evX T y with _|u
  .simp[h2]at he
  .simp only[h2,afO]at he;rcases h3:u.cells? with _|l<;>simp only[h3,reduceCtorEq,aej,aet]at he;obtain⟨rfl,rfl,rfl⟩:=he;exact(N4 hR (qz h3 (ah h1 h2 hT))).done
 case build t ps =>
  show dw P w0 S0 E L' av w (do pure (.value (<- Instr.build t (ps.map λ(i,x)=>(i,a.eval x)))));have hps:(ps.map λ(i,x)=>(i,a.eval x))=⟨ps.toList.map λ(i,x)=>(i,a.eval x)⟩:=(by apply Array.ext';simp);rw[hps];split at hl<;>try cases hl
  rename_i d z hd hz;split at hl<;>try cases hl
  .rename_i fs;split at hl<;>try cases hl
   rename_i hk;rcases hm:fL P (.struct fs) ps.toList with _|m<;>simp only[hm,aeT,aeC,reduceCtorEq,aej]at hl;subst hl;simp only[ak]at he;rcases hf:kK T z m with _|l<;>simp only[hf,aeT,aeC,reduceCtorEq,aej,aet]at he;obtain⟨rfl,rfl,rfl⟩:=he;exact(TG hT hR hd hz hk hm hf).done
  .rename_i n e;split at hl<;>try cases hl
   rename_i hs;rcases hm:fL P (.array n e) ps.toList with _|m<;>simp only[hm,aeT,aeC,reduceCtorEq,aej]at hl;subst hl;simp only[ak]at he;rcases hf:kK T z m with _|l<;>simp only[hf,aeT,aeC,reduceCtorEq,aej,aet]at he;obtain⟨rfl,rfl,rfl⟩:=he;exact(TH hT hR hd hz hm hs hf).done
 case buildSlice t n ps =>
  show dw P w0 S0 E L' av w (do pure (.value (<- Instr.buildSlice t n (ps.map λ(i,x)=>(i,a.eval x)))));have hps:(ps.map λ(i,x)=>(i,a.eval x))=⟨ps.toList.map λ(i,x)=>(i,a.eval x)⟩:=(by apply Array.ext';simp);rw[hps];split at hl<;>try cases hl
  rename_i e hd;split at hl<;>try cases hl
  rename_i s z m hs hz hm;split at hl<;>try cases hl
  rename_i hk;simp only[ak]at he;rcases hf:kK T (cY z n) m with _|l<;>simp only[hf,reduceCtorEq]at he;have:=TI (own:=own == 2) hT hR hd hs hz hk.1 hk.2 hm hf;split at he<;>simp only[aej,aet]at he<;>obtain⟨rfl,rfl,rfl⟩:=he
  .rename_i ho;rw[if_pos ho]at this;exact this.done
  .rename_i ho;rw[if_neg ho]at this;exact this.done
 case load t x =>
  split at hl<;>try cases hl
  rename_i g s y h1 h2 h3;exact Yr hR hT h1 h2 h3 he hc
 case store t x y =>
  split at hl<;>try cases hl
  rename_i s p q h1 h2 h3;exact WL hR hT h1 h2 h3 he hc
 case nilCheck x =>
  rcases h1:aY x with _|y<;>simp[h1]at hl;subst hl;simp only[ak]at he;split at he<;>try cases he
  all_goals
   rename_i h2;have hx:=jY hR h1 h2 hT
  .have hx':=hx;obtain⟨p,hp⟩:=hx'.ptr_shape;exact .same hR (by simp[execOp,hp]) hx
  .have hx':=hx;obtain⟨p,hp⟩:=hx'.iptr_shape;exact .same hR (by simp[execOp,hp]) hx
  .have hx':=hx;obtain⟨p,hp⟩:=hx'.iface_shape;exact .same hR (by simp[execOp,hp]) hx
  .have hx':=hx;obtain⟨p,hp⟩:=hx'.func_shape;exact .same hR (by simp[execOp,hp]) hx
 case binOp op t x y u=>exact aaR (u:=u) hR hT hl he hc
 case unOp op t x =>
  show dw P w0 S0 E L' av w (do pure (.value (<- Op.unary op (a.eval x))));rcases h1:aY x with _|y<;>simp[h1]at hl;subst hl;simp only[ak]at he;split at he<;>try cases he
  rename_i u h2;rcases h3:un op u with _|r<;>simp only[h3,aeT,aeC,reduceCtorEq,aej,aet]at he;obtain⟨rfl,rfl,rfl⟩:=he;exact(abm hR (ah h1 h2 hT) h3).done
 case convert s d x =>
  rcases h1:aY x with _|y
  .simp[h1]at hl
  .simp only[h1,afO]at hl;exact Ys hR hT h1 hl he hc
 case makeInterface t x =>
  show dw P w0 S0 E L' av w (do pure (.value (<- Instr.makeInterface t (a.eval x))));split at hl<;>try cases hl
  rename_i d hni hd;rcases h1:aY x with _|y<;>simp only[h1,aeT,aeC,reduceCtorEq,aej]at hl;subst hl;simp only[ak]at he;rcases h2:evX T y with _|u<;>simp only[h2,aeT,aeC,reduceCtorEq,aej,aet]at he;obtain⟨rfl,rfl,rfl⟩:=he;refine .same hR (v:=.iface t (a.eval x)) ?_ ⟨_,rfl,ah h1 h2 hT⟩;simp only[Instr.makeInterface,aer,run_underlying hd,aes];cases d<;>first|rfl|exact absurd hd (hni _)
 case makeFunc fn first caps =>
  show dw P w0 S0 E L' av w (do pure (.value (<- Instr.makeFunc fn (first.map a.eval) (caps.map a.eval))));split at hl<;>try cases hl
  rename_i f;split at hl<;>try cases hl
  rename_i hfirst;rcases h1:ni caps.toList with _|ys<;>simp only[h1,aeT,aeC,reduceCtorEq,aej]at hl;subst hl;simp only[ak]at he;rcases h2:iz T ys with _|l<;>simp only[h2,aeT,aeC,reduceCtorEq,aej,aet]at he;obtain⟨rfl,rfl,rfl⟩:=he;have hf:first=#[]:=by simpa using hfirst
  subst hf;refine .same hR (v:=.func (.func f) #[] (caps.map a.eval)) (by simp[Instr.makeFunc]) ⟨caps.toList.map a.eval,?_,sw h1 h2 hT⟩;congr 1;apply Array.ext';simp
 case makeSlice t l c' =>
  show dw P w0 S0 E L' av w (do pure (.value (<- Instr.makeSlice t (a.eval l) (a.eval c'))));split at hl<;>try cases hl
  rename_i e hd;split at hl<;>try cases hl
  rename_i s b z l' c'' hs hb hz h1 h2;split at hl<;>try cases hl
  rename_i hk;simp only[ak]at he;split at he<;>try cases he
  rename_i k1 n k2 m h3 h4;have e1:=ah h1 h3 hT;have e2:=ah h2 h4 hT;simp only[VR]at e1 e2;rw[e1,e2];exact(R2 hR hd hs hb hz hk.1 hc.1 hc.2.1 hc.2.2.1 hc.2.2.2).done
 case slice t x lo' hi mx =>
  split at hl<;>try cases hl
  .rename_i x' lo'' hi' hd h1 h2 h3 h4;have hmx:mx=none:=by
    cases mx with
    |none=>rfl
    |some m=>simp[vD]at h4
   subst hmx;show dw P w0 S0 E L' av w (do pure (.value (<- Instr.sliceAt t (a.eval x) (lo'.map a.eval) (hi.map a.eval) none)));simp only[ak]at he;split at he<;>try cases he
   rename_i s r1 r2 h5 h6 h7;exact(Zq hR hd (ah h1 h5 hT) (cX hT h2 h6) (cX hT h3 h7) hc.1 hc.2.1 hc.2.2).done
  .rename_i e x' lo'' hi' mx' hd h1 h2 h3 h4;rcases hs:bG P e with _|s<;>simp only[hs,aeT,aeC,reduceCtorEq,aej]at hl;subst hl;exact aaM hR hT hd hs h1 h2 h3 h4 he hc
  .rename_i n e x' lo'' hi' hd h1 h2 h3 h4;rcases hs:bG P e with _|s<;>simp only[hs,aeT,aeC,reduceCtorEq,aej]at hl;subst hl;have hmx:mx=none:=by
    cases mx with
    |none=>rfl
    |some m=>simp[vD]at h4
   subst hmx;exact aaN hR hT hd hs h1 h2 h3 he hc
 case fieldAddr t x f =>
  split at hl<;>try cases hl
  rename_i fs x' hd h1;split at hl<;>try cases hl
  rename_i fd hf;split at hl<;>try cases hl
  rename_i hz;exact WO hR hT hd hf hz h1 he
 case field t x f =>
  split at hl<;>try cases hl
  rename_i fs x' hd h1;split at hl<;>try cases hl
  rename_i fd hf;split at hl<;>try cases hl
  rename_i g s hg hs;exact WN hR hT hd hf hg hs h1 he hc
 case indexAddr t x i =>
  split at hl<;>try cases hl
  .rename_i e x' i' hd h1 h2;rcases hs:bG P e with _|s<;>simp only[hs,aeT,aeC,reduceCtorEq,aej]at hl;subst hl;exact WM hR hT hd hs h1 h2 he hc
  .rename_i n e x' i' hd h1 h2;rcases hs:bG P e with _|s<;>simp only[hs,aeT,aeC,reduceCtorEq,aej]at hl;subst hl;exact Ux hR hT hd hs h1 h2 he hc
 case index t x i =>
  show dw P w0 S0 E L' av w (do pure (.value (<- Instr.index t (a.eval x) (a.eval i))));split at hl<;>try cases hl
  rename_i x' i' hd h1 h2;simp only[ak]at he;split at he<;>try cases he
  rename_i s k n h3 h4;have e2:=ah h2 h4 hT;simp only[VR]at e2;rw[e2];exact(Xt hR hd (ah h1 h3 hT) hc.1 hc.2).done
 case extract x i =>
  show dw P w0 S0 E L' av w (do pure (.value (<- Instr.extract (a.eval x) i)));rcases h1:aY x with _|y<;>simp[h1]at hl;subst hl;simp only[ak]at he;split at he<;>try cases he
  rename_i l h2;rcases h3:l[i]? with _|u<;>simp only[h3,aeT,aeC,reduceCtorEq,aej,aet]at he;obtain⟨rfl,rfl,rfl⟩:=he;exact(R3 hR (ah h1 h2 hT) h3).done
 case makeMap t r =>
  show dw P w0 S0 E L' av w (do pure (.value (<- Instr.makeMap t (r.map a.eval))));cases r with
  |some x=>simp at hl
  | none =>
    simp only at hl;split at hl<;>try cases hl
    rename_i kt et hd;simp only[ak,aej,aet]at he;obtain⟨rfl,rfl,rfl⟩:=he;exact(Vc hR hd).done
 case lookup t m k ok =>
  show dw P w0 S0 E L' av w (do pure (.value (<- Instr.lookup t (a.eval m) (a.eval k) ok)));split at hl<;>try cases hl
  rename_i kt et m' k' hd h1 h2;split at hl<;>try cases hl
  rename_i kd z h3 h4;simp only[ak]at he;split at he<;>try cases he
  .rename_i kv h5 h6;split at he<;>cases he;rename_i hf;exact(Vd ok hR hd h3 h4 (ah h1 h5 hT) hf (ah h2 h6 hT)).done
  .rename_i i kv h5 h6;split at he<;>try cases he
   rename_i es ck h7;split at he<;>try cases he
   rename_i hf;have go:=λr av hm hav=>(Xr (P:=P) (r:=r) (av:=av) ok hR hd h3 h4 h7 (ah h1 h5 hT) hf (ah h2 h6 hT) hm hav).done
   split at he<;>cases he
   .rename_i j v hm;exact go _ _ hm rfl
   .rename_i hm;exact go _ _ hm rfl
 case mapUpdate t m k v =>
  show dw P w0 S0 E L' av w (do Instr.mapUpdate t (a.eval m) (a.eval k) (a.eval v);pure .skip);split at hl<;>try cases hl
  rename_i kt et m' k' v' hd h1 h2 h3;rcases h4:fx P kt with _|kd<;>simp[h4]at hl;subst hl;simp only[ak]at he;split at he<;>try cases he
  rename_i i kv x h5 h6 h7;split at he<;>try cases he
  rename_i es ck h8;split at he<;>try cases he
  rename_i hf;have go:=λr hm=>Xq (P:=P) (r:=r) hR hd h4 h8 (ah h1 h5 hT) hf (ah h2 h6 hT) (ah h3 h7 hT) hm
  split at he<;>cases he
  .rename_i j y hm;obtain⟨w',g1,g2⟩:=go _ hm;exact⟨E,undef,w',.inr ⟨by simp[g1],rfl⟩,.refl E,by simp[VR],g2⟩
  .rename_i hm;obtain⟨w',g1,g2⟩:=go _ hm;exact⟨E,undef,w',.inr ⟨by simp[g1],rfl⟩,.refl E,by simp[VR],g2⟩
 case range t x =>
  show dw P w0 S0 E L' av w (do pure (.value (<- Instr.range t (a.eval x))));split at hl<;>try cases hl
  .rename_i hd;rcases h1:aY x with _|y<;>simp[h1]at hl;subst hl;simp only[ak]at he;split at he<;>try cases he
   rename_i s h2;exact(TC hR hd (ah h1 h2 hT)).done
  .rename_i kt et hd;rcases h1:aY x with _|y<;>simp[h1]at hl;subst hl;simp only[ak]at he;split at he<;>try cases he
   .rename_i h2;exact(R1 hR hd (ah h1 h2 hT)).done
   .rename_i i h2;split at he<;>cases he;rename_i es ck h3;exact(TD hR hd h3 (ah h1 h2 hT)).done
 case entry x =>
  show dw P w0 S0 E L' av w (do pure (.value (<- Instr.entry (a.eval x))));rcases h1:aY x with _|y<;>simp[h1]at hl;subst hl;simp only[ak]at he;split at he<;>try cases he
  rename_i i h2;split at he<;>try cases he
  rename_i j since seen st h3;split at he<;>try cases he
  rename_i es ck h4;split at he<;>cases he;rename_i e h5;exact(TF hR h3 h4 (ah h1 h2 hT) h5).done
 case next x isS =>
  show dw P w0 S0 E L' av w (do pure (.value (<- Instr.next (a.eval x) isS ty)));by_cases hS:isS=true
  case neg =>
   rw[if_neg hS]at hl;have hS':isS=false:=(by simpa using hS);subst hS';rcases h1:aY x with _|y<;>simp[h1]at hl;subst hl;simp only[ak]at he;split at he<;>try cases he
   rename_i i h2;split at he<;>try cases he
   .rename_i h3;exact(TE hR h3 (ah h1 h2 hT)).done
   .rename_i j since seen last h3;split at he<;>try cases he
    rename_i es ck h4;split at he<;>cases he;rename_i r h5;exact(Vb hR h3 h4 (ah h1 h2 hT) h5).done
  rw[if_pos hS]at hl;subst hS;rcases h1:aY x with _|y<;>simp[h1]at hl;subst hl;simp only[ak]at he;split at he<;>try cases he
  rename_i i h2;split at he<;>try cases he
  rename_i s p h3;have key:=Va (P:=P) (t:=ty) hR h3 (ah h1 h2 hT);split at he<;>cases he
  .rename_i hp;rw[if_pos hp,if_pos hp]at key;exact key.done
  .rename_i hp;rw[if_neg hp,if_neg hp]at key;exact key.done
 case call c' =>
  obtain⟨callee,args,ats⟩:=c';split at hl<;>try cases hl
  rename_i xs hx;split at hl<;>try cases hl
  .simp[LOp.isCall]at hnc
  .rename_i x _ _;rcases h1:aY x with _|y<;>simp only[h1,aeT,aeC,reduceCtorEq,aej]at hl;subst hl;simp[LOp.isCall]at hnc
  .rename_i b hb;simp only at hb hx hl;subst hb;have:execOp a.eval {dst,op:=.call {callee:=.builtin b,args,argTypes:=ats},type:=ty,pos,after,guard}=builtin b ⟨ats.toList⟩ ty (args.map λ|.const _=>true|_=>false) ⟨args.toList.map a.eval⟩:=by simp only[execOp,resolve,pure_bind,invoke];congr 1;apply Array.ext';simp
   rw[this];exact SI hR hT hx hl he hc λe=>by subst e;exact aaP hR hT hx hl he
end
structure aj where
 dst:Option Nat
 op:LOp
 guard:Option (Nat×Bool)
 deriving Inhabited
def bz(dst:Option Nat)(v:AV)(T:Tm):Tm :=
 match dst with
 |some d=>(d,v)::T
 |none=>T
def fo(r:Option Nat):Fence:={fn:=λ_=>True,depth:=none,alive:=false,round:=r}
theorem Qe{P:Program}{args:Array Value}{w:World}{R:Ending->World->Prop}(r:Option Nat)(n:Nat)(h:Calls P f args w R):CallsIn (fo r) n P f args w R:=by have a:CallsIn Fence.wide n P f args w R:=callsIn_wide.2 h;cases r<;>exact a
theorem SR{P:Program}{n l:Nat}{tmps:Array Value}{ca cb:Code}{w:World}{R:Ending->World->Prop}(r:Option Nat)(h:RoundIn (fo none) n P l f tmps ca cb w R):RoundIn (fo r) n P l f tmps ca cb w R:=by cases r<;>exact h
def QU(P:Program)(i:Nat)(args:List AV)(L:List Blk)(Q:AV->List Blk->Prop):Prop :=
 ∀(w0:World) (S0:SB) (E:Env) (w:World) (vs:List Value),Rel w0 S0 E L w->VRL E args vs->∀c,E.loc i=some c ->
  ∃fn tmps ca cb,(Instr.yield c.blk ⟨vs⟩).run P w=.ok (.round c.blk fn tmps ca cb) w/\RoundIn (fo none) 0 P c.blk fn tmps ca cb w λe w'=>∃E' v av L',e=.returned v/\E.le E'/\Q av L'/\VR E' av v/\Rel w0 S0 E' L' w'
theorem QU.mono{P:Program}{L:List Blk}{Q f:AV->List Blk->Prop}(h:QU P i args L Q)(m:∀av L',Q av L'->f av L'):QU P i args L f:=by intro w0 S0 E w vs l k c n;obtain⟨fn,tmps,ca,cb,g,j⟩:=h w0 S0 E w vs l k c n;exact⟨fn,tmps,ca,cb,g,j.mono λe w' ⟨E',v,av,L',a,b,c,d⟩=>⟨E',v,av,L',a,b,m _ _ c,d⟩⟩
def ae(P:Program)(f:FuncId)(args:List AV)(L:List Blk)(Q:AV->List Blk->Prop):Prop :=
 ∀(w0:World) (S0:SB) (E:Env) (w:World) (vs:List Value),Rel w0 S0 E L w->VRL E args vs ->
  ((callFunc f ⟨vs⟩).run P w=.ok (.enter f ⟨vs⟩) w/\Calls P f ⟨vs⟩ w λe w'=>∃E' v av L',e=.returned v/\E.le E'/\Q av L'/\VR E' av v/\Rel w0 S0 E' L' w') \/
  (∃E' v av L' w',(callFunc f ⟨vs⟩).run P w=.ok (.value v) w'/\E.le E'/\Q av L'/\VR E' av v/\Rel w0 S0 E' L' w')
theorem ae.mono{P:Program}{L:List Blk}{Q g:AV->List Blk->Prop}(h:ae P f args L Q)(m:∀av L',Q av L'->g av L'):ae P f args L g:=by
 intro w0 S0 E w vs l k;rcases h w0 S0 E w vs l k with⟨i,j⟩|⟨E',v,av,L',w',i,j,n,h4⟩;exact .inl ⟨i,j.mono λe w' ⟨E',v,av,L',a,b,c,d⟩=>⟨E',v,av,L',a,b,m _ _ c,d⟩⟩
 grind
def Res(K:Tm->List Blk->Prop)(d:Option Nat)(T:Tm):Option (Prop×AV×List Blk)->Prop
 |some (c,av,L')=>c/\K (bz d av T) L'
 |none=>False
theorem Z9{T:Tm}{c:Prop}{av:AV}{L':List Blk}:Res K d T (some (c,av,L'))=(c/\K (bz d av T) L'):=rfl
def Kon(K:Tm->List Blk->Prop)(d:Option Nat)(T:Tm):AV->List Blk->Prop:=λav L'=>K (bz d av T) L'
def Cal(P:Program)(f:FuncId)(K:Tm->List Blk->Prop)(d:Option Nat)(T:Tm)(L:List Blk):Option (List AV)->Prop
 |some args=>ae P f args L (Kon K d T)
 |none=>False
theorem aaj{P:Program}{T:Tm}{L:List Blk}:Cal P f K d T L (some args)=ae P f args L (Kon K d T):=rfl
def X2(P:Program)(K:Tm->List Blk->Prop)(d:Option Nat)(T:Tm)(L:List Blk):Option AV->Option (List AV)->Prop
 |some (.func g caps),some args=>ae P g (args++caps) L (Kon K d T)
 |some (.yld i),some args=>QU P i args L (Kon K d T)
 |_,_=>False
theorem QA{P:Program}{T:Tm}{L:List Blk}:X2 P K d T L (some (.yld i)) (some args)=QU P i args L (Kon K d T):=rfl
theorem X1{P:Program}{T:Tm}{L:List Blk}{g:FuncId}{caps:List AV}:X2 P K d T L (some (.func g caps)) (some args)=ae P g (args++caps) L (Kon K d T):=rfl
def AOp(P:Program)(o:aj)(K:Tm->List Blk->Prop)(T:Tm)(L:List Blk):Prop :=
 match o.op with
 |.call f xs=>Cal P f K o.dst T L (iz T xs)
 |.callv f xs=>X2 P K o.dst T L (evX T f) (iz T xs)
 |lo=>Res K o.dst T (ak T L lo)
def Grd(P:Program)(o:aj)(K:Tm->List Blk->Prop)(b:Bool)(T:Tm)(L:List Blk):Option AV->Prop
 |some (.bool x)=>if x=b then AOp P o K T L else K (bz o.dst (.tup []) T) L
 |some (.tup [])=>K (bz o.dst (.tup []) T) L
 |_=>False
theorem yz{P:Program}{o:aj}{x:Bool}{T:Tm}{L:List Blk}:Grd P o K b T L (some (.bool x))=if x=b then AOp P o K T L else K (bz o.dst (.tup []) T) L:=rfl
theorem Sr{P:Program}{o:aj}{T:Tm}{L:List Blk}:Grd P o K b T L (some (.tup []))=K (bz o.dst (.tup []) T) L:=rfl
def l7(P:Program)(K:Tm->List Blk->Prop):List aj->Tm->List Blk->Prop
 |[],T,L=>K T L
 | o::rest,T,L=>match o.guard with
   |none=>AOp P o (l7 P K rest) T L
   |some (t,b)=>Grd P o (l7 P K rest) b T L (ar T t)
theorem aao{P:Program}{T:Tm}{L:List Blk}:l7 P K [] T L=K T L:=rfl
theorem X3{P:Program}{op:LOp}{rest:List aj}{T:Tm}{L:List Blk}:l7 P K (⟨d,op,none⟩::rest) T L=AOp P ⟨d,op,none⟩ (l7 P K rest) T L:=rfl
theorem VA{P:Program}{op:LOp}{rest:List aj}{T:Tm}{L:List Blk}:l7 P K (⟨d,op,some (t,b)⟩::rest) T L=Grd P ⟨d,op,some (t,b)⟩ (l7 P K rest) b T L (ar T t):=rfl
def ace(N:Nat):Option Nat->Bool
 |some d=>decide (d<N)
 |none=>true
def mc(P:Program)(N:Nat)(own:Nat->Nat)(ops:Array Oper)(i:Nat):Option aj :=
 match ops[i]? with
 |none=>none
 | some o=>match (jX P (own i) o.op).getD .bad with
   | lo =>
     if ace N o.dst=true then
      match o.guard with
      |none=>some ⟨o.dst,lo,none⟩
      | some (j,b)=>match (ops[j]?).bind (·.dst) with
        |some t=>if t<N then some ⟨o.dst,lo,some (t,b)⟩else none
        |none=>none
     else none
def bp(P:Program)(N:Nat)(own:Nat->Nat)(ops:Array Oper):List Nat->Option (List aj)
 |[]=>some []
 | i::l=>match mc P N own ops i,bp P N own ops l with
   |some o,some m=>some (o::m)
   |_,_=>none
section
variable {P:Program}{w0:World}{S0:SB}{N:Nat}
theorem Pi(a:Act)(d:Option Nat)(v:Value):(a.put d v).tmps.size=a.tmps.size:=by cases d<;>simp[Act.put]
theorem Jc(a:Act)(d:Option Nat)(v:Value):(a.put d v).defers=a.defers:=by cases d<;>simp[Act.put]
theorem TR.putT{E:Env}{T:Tm}{a:Act}{d:Option Nat}{x:AV}{v:Value}(r:TR E T a)(hd:∀k,d=some k->k<a.tmps.size)(b:VR E x v):TR E (bz d x T) (a.put d v):=by
 cases d with
 |none=>exact r
 |some k=>exact r.put (hd k rfl) b
def mkD(D:Nat):Deferred:={target:=.collected D,args:=#[]}
def Uh(w0:World)(S0:SB)(ds:List Deferred):Prop:=S0.B<=w0.heap.size/\ds.Nodup/\∀d∈ds,∃D,d=mkD D/\S0.B<=D/\D<w0.heap.size/\¬S0 D/\w0.heap[D]?=some (.deferred (some []))
theorem Uh.nil{w0:World}{S0:SB}(h:S0.B<=w0.heap.size):Uh w0 S0 []:=⟨h,agd,λ_ h=>by cases h⟩
def St(w0:World)(S0:SB)(N:Nat)(E:Env)(T:Tm)(L:List Blk)(a:Act)(w:World):Prop :=
 Rel w0 S0 E L w/\TR E T a/\a.tmps.size=N/\Uh w0 S0 a.defers
theorem UU{own:Nat}{s d:TypeId}{x:Opd}{a:LOp}(h:yK P own s d x=some a):a.isCall=false:=by
 unfold yK at h
 repeat' split at h
 all_goals (first|(cases h;rfl)|cases h)
theorem Xc{op:BinOp}{t:TypeId}{x y:Operand}{a:LOp}(h:Je P op t x y=some a):a.isCall=false:=by
 unfold Je at h
 repeat' split at h
 all_goals (first|(cases h;rfl)|cases h)
theorem QG{own:Nat}{b:Builtin}{ts:List TypeId}{xs:List Opd}{a:LOp}(h:cj P own b ts xs=some a):a.isCall=false:=by
 unfold cj at h
 repeat' split at h
 all_goals (first|(cases h;rfl)|cases h|(simp only[aeK]at h;obtain⟨_,_,rfl⟩:=h;rfl))
theorem Y8{own:Nat}{op:Op}{lo:LOp}(h:jX P own op=some lo)(hc:∀c,op≠.call c):lo.isCall=false:=by
 cases op
 case makeMap t r =>
  cases r with
  |some x=>simp[jX]at h
  | none =>
    simp only[jX]at h;split at h<;>cases h;rfl
 all_goals (simp only[jX]at h;try (cases h;done))
 case call c=>exact absurd rfl (hc c)
 case binOp=>exact Xc h
 case convert x=>simp only[af2]at h;obtain⟨_,_,h⟩:=h;exact UU h
 all_goals
  repeat' split at h
  all_goals (first|(cases h;rfl)|cases h|(simp only[aeK]at h;obtain⟨_,_,rfl⟩:=h;rfl))
theorem GU{own:Nat}{o:Oper}{lo:LOp}{gd:Option (Nat×Bool)}(hl':(jX P own o.op).getD .bad=lo)(hd:∀d,o.dst=some d->d<N){T:Tm}{L:List Blk}{E:Env}{a:Act}{w:World}{K:Tm->List Blk->Prop}(hst:St w0 S0 N E T L a w)(h:AOp P ⟨o.dst,lo,gd⟩ K T L){next:Act->World->Prop}{Q:Exit->Act->World->Prop}(hK:∀E' T' L' a' w',E.le E'->K T' L'->St w0 S0 N E' T' L' a' w'->next a' w'){r:Option Nat}:o.wpIn (fo r) 0 P a w next Q:=by
 have hl:jX P own o.op=some lo:=by rcases hq:jX P own o.op with _|x;rw[hq]at hl';simp only[Option.getD_none]at hl';subst hl';exact h.elim;simp_all
 obtain⟨hR,hT,hN,hdf⟩:=hst;have hnd:∀c,o.op≠.defer c:=λc e=>by rw[e]at hl;simp[jX]at hl
 refine⟨λ_ _=>trivial,?_⟩;rw[Oper.semAt_plain _ _ _ hnd];have value:∀{E':Env}{v:Value}{av:AV}{L':List Blk}{w':World},E.le E'->VR E' av v->Rel w0 S0 E' L' w'->K (bz o.dst av T) L'->next (a.put o.dst v) w':=λ{E' v av L' w'} h1 h2 h3 h4 =>
  hK E' _ _ _ _ h1 h4 ⟨h3,(hT.mono h1).putT (λk hk=>by rw[hN];exact hd k hk) h2,by rw[Pi];exact hN,by rw[Jc];exact hdf⟩
 have called:∀{f:FuncId}{vs:List Value}{args:List AV},((execOp a.eval o).run P w=(callFunc f ⟨vs⟩).run P w)->VRL E args vs->ae P f args L (Kon K o.dst T)->o.uponIn (fo r) 0 P a next Q ((execOp a.eval o).run P w):=λ{f vs args} hrun hv hc=>by rw[hrun];rcases hc w0 S0 E w vs hR hv with⟨h1,h2⟩|⟨E',v,av,L',w',h1,h2,h3,h4,h5⟩;rw[h1,Oper.uponIn_enter];refine⟨λh=>(by cases h),(Qe r _ h2).mono λe w' ⟨E',v,av,L',e1,h3,h4,h5,h6⟩=>?_⟩;subst e1;exact value h3 h5 h6 h4;rw[h1,Oper.uponIn_value];exact value h2 h4 h5 h3
 by_cases hcall:lo.isCall=true
 .obtain⟨d0,op,ty,pos,after,guard⟩:=o;by_cases hop:∃c,op=.call c
  .obtain⟨⟨callee,args,ats⟩,rfl⟩:=hop;simp only[jX]at hl;split at hl<;>try cases hl
   rename_i xs hx;split at hl<;>try cases hl
   rename_i f;simp only[AOp]at h;rcases hev:iz T xs with _|l;rw[hev]at h;exact h.elim;rw[hev]at h;refine called (vs:=args.toList.map a.eval) ?_ (sw hx hev hT) h;rw[execOp_call_go];congr 2
   grind
   .rename_i x _;rcases h1:aY x with _|y<;>simp only[h1,aeT,aeC,reduceCtorEq,aej]at hl;subst hl;simp only[AOp]at h;rcases hev:evX T y with _|u;rw[hev]at h;exact h.elim;rcases hevs:iz T xs with _|l;rw[hev,hevs]at h;cases u<;>exact h.elim;rw[hev,hevs]at h;cases u<;>simp only[X2]at h
    case yld i =>
     have hx':=ah h1 hev hT;simp only[VR]at hx';obtain⟨c,hc,hfv⟩:=hx';have hrun:(execOp a.eval {dst:=d0,op:=.call {callee:=.value x,args,argTypes:=ats},type:=ty,pos,after,guard}).run P w=(Instr.yield c.blk (args.map a.eval)).run P w:=by simp only[execOp,resolve,hfv,Deferred.ofValue,pure_bind,invoke];simp
     have hargs:(⟨args.toList.map a.eval⟩:Array Value)=args.map a.eval:=(by apply Array.ext';simp);obtain⟨fn,tmps,ca,cb,k1,k2⟩:=h w0 S0 E w _ hR (sw hx hevs hT) c hc;rw[hrun,<- hargs,k1,Oper.uponIn_round];refine⟨λh=>(by cases h),(SR r k2).mono λe w' ⟨E',v,av,L',e1,h3,h4,h5,h6⟩=>?_⟩;subst e1;exact value h3 h5 h6 h4
    rename_i g caps;have hx':=ah h1 hev hT;simp only[VR]at hx';obtain⟨cs,hfv,hcs⟩:=hx';refine called (vs:=args.toList.map a.eval++cs) ?_ ((sw hx hevs hT).append hcs) h;have:execOp a.eval {dst:=d0,op:=.call {callee:=.value x,args,argTypes:=ats},type:=ty,pos,after,guard}=callFunc g (args.map a.eval++⟨cs⟩):=by simp only[execOp,resolve,hfv,Deferred.ofValue,pure_bind,invoke];simp
    rw[this];congr 2;simp
   rw[QG hl]at hcall;cases hcall
  rw[Y8 hl (λc e=>hop ⟨c,e⟩)]at hcall;cases hcall
 have hcall:lo.isCall=false:=by simpa using hcall
 have h':Res K o.dst T (ak T L lo):=by cases lo<;>simp only[LOp.isCall,afS]at hcall<;>exact h
 rcases he:ak T L lo with _|⟨c,av,L'⟩;rw[he]at h';exact h'.elim;rw[he]at h';obtain⟨E',v,w',h1,h2,h3,h4⟩:=R8 hR hT hl hcall he h'.1;rcases h1 with h1|⟨h1,rfl⟩;rw[h1,Oper.uponIn_value];exact value h2 h3 h4 h'.2;rw[h1,Oper.uponIn_skip];exact value h2 h3 h4 h'.2
end
section
variable {P:Program}{w0:World}{S0:SB}{N:Nat}
theorem ke{E:Env}{T:Tm}{a:Act}{ops:Array Oper}{j t:Nat}(c:TR E T a)(d:(ops[j]?).bind (·.dst)=some t)(g:t<a.tmps.size):
  (∀x,ar T t=some (.bool x)->yielded ops a.tmps j=some x)/\(ar T t=some (.tup [])->yielded ops a.tmps j=none):=by
 refine⟨λx b=>?_,λb=>?_⟩;have:=c t _ b;simp only[VR]at this;unfold yielded;simp_all;have:=c t _ b;obtain⟨vs,f,e⟩:=this;unfold yielded;simp_all
theorem iw{own:Nat->Nat}{ops:Array Oper}{i:Nat}{a:aj}(h:mc P N own ops i=some a):
  ∃o,ops[i]?=some o/\(jX P (own i) o.op).getD .bad=a.op/\o.dst=a.dst/\(∀d,o.dst=some d->d<N) /\
   ((o.guard=none/\a.guard=none)\/∃j b t,o.guard=some (j,b)/\(ops[j]?).bind (·.dst)=some t/\t<N/\a.guard=some (t,b)):=by
 unfold mc at h;split at h;cases h;rename_i o f;split at h;rename_i hd;have c:∀d,o.dst=some d->d<N:=λd e=>by rw[e]at hd;simpa[ace]using hd
 grind
 cases h
theorem JO{E:Env}{T:Tm}{L:List Blk}{a:Act}{w:World}(h:St w0 S0 N E T L a w){d:Option Nat}(hd:∀k,d=some k->k<N):St w0 S0 N E (bz d (.tup []) T) L (a.put d undef) w :=
 ⟨h.1,h.2.1.putT (λk b=>by rw[h.2.2.1];exact hd k b) ⟨[],rfl,rfl⟩,by rw[Pi];exact h.2.2.1,by rw[Jc];exact h.2.2.2⟩
theorem JE{own:Nat->Nat}{ops:Array Oper}{K:Tm->List Blk->Prop}{Q:Exit->Act->World->Prop}{r:Option Nat}:∀(is:List Nat) (d:List aj),bp P N own ops is=some d ->
  ∀{T:Tm}{L:List Blk}{E:Env}{a:Act}{w:World},St w0 S0 N E T L a w->l7 P K d T L->(∀E' T' L' y w',E.le E'->K T' L'->St w0 S0 N E' T' L' y w'->Q .normal y w')->wpOpsIn (fo r) 0 P ops Q is a w
 |[],d,hl,T,L,E,a,w,hst,h,hK=>by simp[bp]at hl;subst hl;exact hK E T L a w (.refl E) h hst
 | i::is,d,hl,T,L,E,a,w,hst,h,hK=>by
   simp only[bp]at hl;split at hl<;>try cases hl
   rename_i I c J H;obtain⟨o,M,s,g,hd,O⟩:=iw J;obtain⟨S,v,R⟩:=I;subst g;simp only[wpOpsIn,M];have go:AOp P ⟨o.dst,v,R⟩ (l7 P K c) T L->o.wpIn (fo r) 0 P a w (wpOpsIn (fo r) 0 P ops Q is) Q:=λn =>
    GU s hd hst n λE' T' L' y w' C F m=>JE is c H m F λA z q B p k=>hK A z q B p (C.trans k)
   have f:l7 P K c (bz o.dst (.tup []) T) L->wpOpsIn (fo r) 0 P ops Q is (a.put o.dst undef) w:=λn =>
    JE is c H (JO hst hd) n hK
   rcases O with⟨g1,D⟩|⟨j,b,t,g1,D,g3,g4⟩
   .subst D;rw[if_pos (by simp[Region.wanted,g1])];exact go h
   .subst g4;simp only[l7]at h;have G:=ke (E:=E) (T:=T) (a:=a) (ops:=ops) hst.2.1 D (by rw[hst.2.2.1];exact g3);rcases hx:ar T t with _|u
    .rw[hx]at h;exact h.elim
    rw[hx]at h;cases u<;>try exact h.elim
    .rename_i x;rw[yz]at h;have:=G.1 x hx;by_cases e:x=b
     .rw[if_pos (by simp[Region.wanted,g1,this,e])];simp_all
     .rw[if_neg (by simp[Region.wanted,g1,this,e])];rw[if_neg e]at h;exact⟨λ_ _=>trivial,f h⟩
    .rename_i l;cases l with
     |cons _ _=>exact h.elim
     | nil =>
       have:=G.2 hx;rw[if_neg (by simp[Region.wanted,g1,this])];exact⟨λ_ _=>trivial,f h⟩
theorem St.weak{T:Tm}{L:List Blk}{E:Env}{a:Act}{w:World}{T':Tm}{L':List Blk}(h:St w0 S0 N E T L a w)(d:∀t v,ar T' t=some v->ar T t=some v)(c:L'.length=L.length)(b:∀(i:Nat) (k:Blk),L'[i]?=some k->k=.dead\/L[i]?=some k):St w0 S0 N E T' L' a w:=⟨h.1.kill c b,h.2.1.weak d,h.2.2⟩
end
def Opd.tmps:Opd->List Nat
 |.tmp t=>[t]
 |.av _=>[]
def W5:Option Opd->List Nat
 |some x=>x.tmps
 |none=>[]
def RP:List (Nat×Nat×Opd)->List Nat
 |[]=>[]
 |(_,_,x)::l=>x.tmps++RP l
def Rh:List Opd->List Nat
 |[]=>[]
 |x::l=>x.tmps++Rh l
def LOp.tmps:LOp->List Nat
 |.mv x|.box x|.load _ _ x|.nilchk x|.slnil _ x|.un _ x|.conv _ x|.sconv x|.b2s x|.s2b x|.s2bO x|.s2bG x|.rangeS x|.nextS x|.mkif _ x|.faddr _ x|.field _ _ _ x|.extract x _|.len _ x|.cap x|.clear _ _ x=>x.tmps
 |.pick c a b=>c.tmps++a.tmps++b.tmps
 |.alloc _|.bad|.mkmap=>[]
 |.mlen x|.mclr x|.mrange x|.mnext x|.mentry x=>x.tmps
 |.mget _ _ _ a x=>a.tmps++x.tmps
 |.mdel _ a x=>a.tmps++x.tmps
 |.mset _ c a b=>c.tmps++a.tmps++b.tmps
 |.build _ ps|.bslice _ _ _ _ ps=>RP ps
 |.store _ a x|.bin _ a x|.eqk _ _ a x|.eq2 _ a x|.mkslice _ _ _ a x|.iaddr _ a x|.iaddrA _ _ a x|.idxS a x|.app _ _ _ _ a x|.appz _ _ _ a x|.copy _ a x=>a.tmps++x.tmps
 |.mkfn _ l|.minmax _ l|.call _ l=>Rh l
 |.callv f l=>f.tmps++Rh l
 |.slS x lo hi|.slA _ _ x lo hi=>x.tmps++W5 lo++W5 hi
 |.slV _ x lo hi mx=>x.tmps++W5 lo++W5 hi++W5 mx
section
variable {T T':Tm}{L:List Blk}
theorem ax{x:Opd}(h:∀t∈x.tmps,ar T t=ar T' t):evX T x=evX T' x:=by
 cases x with
 |tmp t=>exact h t (by simp[Opd.tmps])
 |av a=>rfl
theorem lZ{x:Option Opd}(h:∀t∈W5 x,ar T t=ar T' t):bnd T x=bnd T' x:=by
 cases x with
 |none=>rfl
 |some x=>simp only[bnd,ax (x:=x) h]
theorem jA:∀{l:List Opd},(∀t∈Rh l,ar T t=ar T' t)->iz T l=iz T' l
 |[],_=>rfl
 |x::l,h=>by simp only[Rh,aen]at h;simp only[iz,ax (x:=x) (λt a=>h t (.inl a)),jA (l:=l) (λt a=>h t (.inr a))]
theorem Gg:∀{ps:List (Nat×Nat×Opd)}{z:List AV},(∀t∈RP ps,ar T t=ar T' t)->kK T z ps=kK T' z ps
 |[],_,_=>rfl
 | (o,s,x)::l,z,h=>by
   simp only[RP,aen]at h;simp only[kK,ax (x:=x) (λt a=>h t (.inl a))];split
   .split
    .exact Gg λt a=>h t (.inr a)
    .rfl
   .rfl
theorem LO{lo:LOp}(h:∀t∈lo.tmps,ar T t=ar T' t):ak T L lo=ak T' L lo:=by
 cases lo
 case mv x=>simp only[ak,evD,ax (x:=x) h]
 case box x=>simp only[ak,evD,ax (x:=x) h]
 case load g s x=>simp only[ak,evD,ax (x:=x) h]
 case nilchk x=>simp only[ak,evD,ax (x:=x) h]
 case un o x=>simp only[ak,evD,ax (x:=x) h]
 case conv k x=>simp only[ak,evD,ax (x:=x) h]
 case sconv x=>simp only[ak,evD,ax (x:=x) h]
 case b2s x=>simp only[ak,evD,ax (x:=x) h]
 case bad=>rfl
 case mkmap=>rfl
 case mlen x=>simp only[ak,evD,ax (x:=x) h]
 case mclr x=>simp only[ak,evD,ax (x:=x) h]
 case mrange x=>simp only[ak,evD,ax (x:=x) h]
 case mnext x=>simp only[ak,evD,ax (x:=x) h]
 case mentry x=>simp only[ak,evD,ax (x:=x) h]
 case mget kd ok z a x =>
  simp only[LOp.tmps,aen]at h;simp only[ak,evD,ax (x:=a) (λt ht=>h t (.inl ht)),ax (x:=x) (λt ht=>h t (.inr ht))]
 case mdel kd a x =>
  simp only[LOp.tmps,aen]at h;simp only[ak,evD,ax (x:=a) (λt ht=>h t (.inl ht)),ax (x:=x) (λt ht=>h t (.inr ht))]
 case mset kd c a b =>
  simp only[LOp.tmps,aen]at h;simp only[ak,evD,ax (x:=c) (λt ht=>h t (.inl (.inl ht))),ax (x:=a) (λt ht=>h t (.inl (.inr ht))),ax (x:=b) (λt ht=>h t (.inr ht))]
 case slnil _ x=>simp only[ak,evD,ax (x:=x) h]
 case s2b x=>simp only[ak,evD,ax (x:=x) h]
 case s2bO x=>simp only[ak,evD,ax (x:=x) h]
 case s2bG x=>simp only[ak,evD,ax (x:=x) h]
 case rangeS x=>simp only[ak,evD,ax (x:=x) h]
 case nextS x=>simp only[ak,evD,ax (x:=x) h]
 case mkif t x=>simp only[ak,evD,ax (x:=x) h]
 case faddr o x=>simp only[ak,evD,ax (x:=x) h]
 case field g o s x=>simp only[ak,evD,ax (x:=x) h]
 case extract x i=>simp only[ak,evD,ax (x:=x) h]
 case len b x=>cases b<;>simp only[ak,evD,ax (x:=x) h]
 case cap x=>simp only[ak,evD,ax (x:=x) h]
 case clear s z x=>simp only[ak,evD,ax (x:=x) h]
 case alloc z=>rfl
 case pick c a b =>
  simp only[LOp.tmps,aen]at h;simp only[ak,evD,ax (x:=c) (λt ht=>h t (.inl (.inl ht))),ax (x:=a) (λt ht=>h t (.inl (.inr ht))),ax (x:=b) (λt ht=>h t (.inr ht))]
 case build z ps=>simp only[ak,evD,Gg (ps:=ps) h]
 case bslice o s n z ps=>simp only[ak,evD,Gg (ps:=ps) h]
 case mkfn f l=>simp only[ak,evD,jA (l:=l) h]
 case minmax m l =>
  match l,h with
  | [x,y],h =>
    simp only[LOp.tmps,Rh,aen,aeL]at h;simp only[ak,evD,ax (x:=x) (λt ht=>h t (.inl ht)),ax (x:=y) (λt ht=>h t (.inr ht))]
  |[],_=>rfl
  |[_],_=>rfl
  |_::_::_::_,_=>rfl
 case call f l=>rfl
 case callv f l=>rfl
 case slS x lo hi =>
  simp only[LOp.tmps,aen]at h;simp only[ak,evD,ax (x:=x) (λt ht=>h t (.inl (.inl ht))),lZ (x:=lo) (λt ht=>h t (.inl (.inr ht))),lZ (x:=hi) (λt ht=>h t (.inr ht))]
 case slA n s x lo hi =>
  simp only[LOp.tmps,aen]at h;simp only[ak,evD,ax (x:=x) (λt ht=>h t (.inl (.inl ht))),lZ (x:=lo) (λt ht=>h t (.inl (.inr ht))),lZ (x:=hi) (λt ht=>h t (.inr ht))]
 case slV s x lo hi mx =>
  simp only[LOp.tmps,aen]at h;simp only[ak,evD,ax (x:=x) (λt ht=>h t (.inl (.inl (.inl ht)))),lZ (x:=lo) (λt ht=>h t (.inl (.inl (.inr ht)))),lZ (x:=hi) (λt ht=>h t (.inl (.inr ht))),lZ (x:=mx) (λt ht=>h t (.inr ht))]
 all_goals
  rename_i a x;simp only[LOp.tmps,aen]at h;simp only[ak,evD,ax (x:=a) (λt ht=>h t (.inl ht)),ax (x:=x) (λt ht=>h t (.inr ht))]
end
def aj.reads(o:aj):List Nat :=
 o.op.tmps++(match o.guard with|some (t,_)=>[t]|none=>[])
def AQv(P:Program)(o:aj)(T:Tm)(L:List Blk)(v:AV):Prop :=
 match o.op with
 | .call f xs=>match iz T xs with
   |some args=>ae P f args L λav L'=>av=v/\L'=L
   |none=>False
 | .callv f xs=>match evX T f,iz T xs with
   |some (.func g caps),some args=>ae P g (args++caps) L λav L'=>av=v/\L'=L
   |_,_=>False
 | lo=>match ak T L lo with
   |some (c,av,L')=>c/\av=v/\L'=L
   |none=>False
def AQ(P:Program)(o:aj)(T:Tm)(L:List Blk)(v:AV):Prop :=
 match o.guard with
 |none=>AQv P o T L v
 | some (t,b)=>match ar T t with
   |some (.bool x)=>if x=b then AQv P o T L v else v=.tup []
   |some (.tup [])=>v=.tup []
   |_=>False
theorem AQ.congr{P:Program}{o:aj}{T T':Tm}{L:List Blk}(h:∀t∈o.reads,ar T t=ar T' t)(g:AQ P o T L v):AQ P o T' L v:=by
 have a:∀t∈o.op.tmps,ar T t=ar T' t:=λt d=>h t (by simp[aj.reads,d])
 have c:AQv P o T L v->AQv P o T' L v:=λc=>by unfold AQv at c⊢;split at c;rename_i f xs e;rw[e]at a;rw[<- jA (l:=xs) a];exact c;rename_i f xs e;rw[e]at a;simp only[LOp.tmps,aen]at a;rw[<- jA (l:=xs) (λt d=>a t (.inr d)),<- ax (x:=f) (λt d=>a t (.inl d))];exact c;rw[<- LO a];exact c
 unfold AQ at g⊢;split at g;simp[*];rename_i t b i;rw[<- h t (by simp[aj.reads,i])]
 grind
def TL(T:Tm):List aj->List AV->Nat->(Nat->Bool)->Tm
 |o::qs,v::tr,k,f=>TL (if f k=true then bz o.dst v T else T) qs tr (k+1) f
 |_,_,_,_=>T
def Uk:List aj->Prop
 |[]=>True
 |o::qs=>(∀p∈qs,∀d,o.dst=some d->p.dst≠some d)/\Uk qs
theorem yL{T:Tm}(h:d≠some t):ar (bz d v T) t=ar T t:=by
 cases d with
 |none=>rfl
 |some d=>simp only[bz,ar];rw[if_neg (λe=>h (by rw[e]))]
theorem LB{T:Tm}:ar (bz (some t) v T) t=some v:=by simp[bz,ar]
theorem OZ{t:Nat}:∀{qs:List aj}{tr:List AV}{T:Tm}{k:Nat}{f:Nat->Bool},(∀(j:Nat) (o:aj),qs[j]?=some o->o.dst=some t->f (k+j)=false)->ar (TL T qs tr k f) t=ar T t
 |[],tr,T,k,f,_=>by cases tr<;>rfl
 |o::qs,[],T,k,f,_=>rfl
 | o::qs,v::tr,T,k,f,h=>by
   simp only[TL];rw[OZ (λj p a hd=>by have:=h (j+1) p (by simpa using a) hd;rwa[show k+1+j=k+(j+1)by omega])];split
   .rename_i hf;refine yL λe=>?_
    have:=h 0 o ahe e;simp_all
   .rfl
theorem Ws{t:Nat}{v:AV}:∀{qs:List aj}{tr:List AV}{T:Tm}{k:Nat}{f:Nat->Bool}{j:Nat}{o:aj},Uk qs->qs[j]?=some o->o.dst=some t->tr[j]?=some v->f (k+j)=true->ar (TL T qs tr k f) t=some v
 |[],_,_,_,_,j,o,_,h,_,_,_=>by simp at h
 |p::qs,[],_,_,_,j,o,_,_,_,h,_=>by simp at h
 |p::qs,u::tr,T,k,f,0,o,hD,h,hd,hv,hf=>by simp only[afc,aej]at h hv;subst h hv;simp only[TL];simp only[afC]at hf;rw[if_pos hf,OZ λj q b a=>absurd a (hD.1 q (afi b) t hd),hd];exact LB
 |p::qs,u::tr,T,k,f,j+1,o,hD,h,hd,hv,hf=>by simp only[TL];exact Ws hD.2 (by simpa using h) hd (by simpa using hv) (by rwa[show k+1+j=k+(j+1)by omega])
theorem Sp:∀{qs:List aj}{tr:List AV}{T:Tm}{k:Nat}{f g:Nat->Bool},(∀j,j<qs.length->f (k+j)=g (k+j))->TL T qs tr k f=TL T qs tr k g
 |[],tr,T,k,f,g,_=>by cases tr<;>rfl
 |o::qs,[],T,k,f,g,_=>rfl
 |o::qs,v::tr,T,k,f,g,h=>by simp only[TL];have a:=h 0 ahe;simp only[afC]at a;rw[a];exact Sp λj b=>by rw[show k+1+j=k+(j+1)by omega];exact h (j+1) (by simpa using b)
theorem Uc:∀(qs:List aj) (tr:List AV) (T:Tm) (k:Nat),TL T qs tr k (λ_=>false)=T:=by
 intro qs;induction qs with
 |nil=>intro tr T k;cases tr<;>rfl
 | cons q qs ih=>intro tr T k;cases tr with
   |nil=>rfl
   |cons u tr=>simp only[TL];rw[ih];simp
theorem GE{t:Nat}:∀{qs:List aj}{i j:Nat}{o p:aj},Uk qs->qs[i]?=some o->qs[j]?=some p->o.dst=some t->p.dst=some t->i=j
 |[],i,j,o,p,_,h,_,_,_=>by simp at h
 |q::qs,0,0,o,p,_,_,_,_,_=>rfl
 |q::qs,0,j+1,o,p,hD,h1,h2,d1,d2=>by simp only[afc,aej]at h1;subst h1;exact absurd d2 (hD.1 p (afi (by simpa using h2)) t d1)
 |q::qs,i+1,0,o,p,hD,h1,h2,d1,d2=>by simp only[afc,aej]at h2;subst h2;exact absurd d1 (hD.1 o (afi (by simpa using h1)) t d2)
 |q::qs,i+1,j+1,o,p,hD,h1,h2,d1,d2=>by have:=GE (i:=i) (j:=j) (o:=o) (p:=p) hD.2 (by simpa using h1) (by simpa using h2) d1 d2;omega
theorem Sn{qs:List aj}{tr:List AV}{T:Tm}{f:Nat->Bool}{j:Nat}{o:aj}(c:Uk qs)(i:tr.length=qs.length)(h:qs[j]?=some o)(hd:o.dst=some t):
  ar (TL T qs tr 0 f) t=if f j=true then tr[j]? else ar T t:=by
 have d:j<tr.length:=by have:=(aei.1 h).1;omega
 split;rename_i e;rw[aeF d];exact Ws c h hd (aeF d) (by simpa using e);rename_i e;exact OZ λk g b a=>by have:=GE c b h a hd;simp[*]
theorem So{qs:List aj}{tr:List AV}{T:Tm}{f:Nat->Bool}(h:∀(j:Nat) (o:aj),qs[j]?=some o->o.dst≠some t):ar (TL T qs tr 0 f) t=ar T t :=
 OZ λj o a hd=>absurd hd (h j o a)
def Wk(tbl:List Nat)(o:Oper):Nat:=(o.after.toList.filter λe=>Region.binds .any e).foldl (λacc e=>acc |||(1 <<< e.on) |||tbl.getD e.on 0) 0
def nG:List Oper->List Nat->List Nat
 |[],t=>t
 |o::l,t=>nG l (t++[Wk t o])
def ZB(ops:Array Oper)(tbl:List Nat):Bool:=ops.toList.zipIdx.all λ(o,i)=>tbl.getD i 0 == Wk tbl o
theorem Ry{o:Oper}{j:Nat}(h:(Wk tbl o).testBit j=true):∃e∈o.after.toList,Region.binds .any e=true/\(j=e.on\/(tbl.getD e.on 0).testBit j=true):=by
 have key:∀(l:List Edge) (b:Nat),(l.foldl (λb e=>b |||(1 <<< e.on) |||tbl.getD e.on 0) b).testBit j=true->b.testBit j=true\/∃e∈l,j=e.on\/(tbl.getD e.on 0).testBit j=true:=by
  intro l;induction l with
  |nil=>intro b h;exact .inl h
  | cons e l ih =>
    intro b h;rcases ih _ h with a|⟨d,a,c⟩
    .rw[Nat.testBit_or,Nat.testBit_or,ae4,ae4]at a;rcases a with(a|a)|a
     .simp[*]
     .refine .inr ⟨e,ahe,.inl ?_⟩;rw[Nat.one_shiftLeft,Nat.testBit_two_pow]at a;exact(of_decide_eq_true a).symm
     .exact .inr ⟨e,ahe,.inr a⟩
    .exact .inr ⟨d,by simp[a],c⟩
 rcases key _ _ h with a|⟨e,a,c⟩;simp at a;rw[ae0]at a;exact⟨e,a.1,a.2,c⟩
def Wj:List aj->Bool
 |[]=>true
 |o::qs=>(match o.dst with|some d=>qs.all λp => !(p.dst == some d)|none=>true)&&Wj qs
theorem P1:∀{qs:List aj},Wj qs=true->Uk qs
 |[],_=>trivial
 |o::qs,h=>by simp only[Wj,aeq]at h;refine⟨λp a d hd=>?_,P1 h.2⟩;simp_all
def adt(tbl:List Nat)(los:List aj):Bool :=
 los.zipIdx.all λ(o,i)=>o.reads.all λt=>los.zipIdx.all λ(p,j) => !(p.dst == some t) ||(tbl.getD i 0).testBit j ||(tbl.getD j 0).testBit i
def Qv(ops:Array Oper):Bool:=ops.toList.zipIdx.all λ(o,i)=>o.after.toList.all λe => !Region.binds .any e ||decide (e.on<i)
def Vr(tbl:List Nat)(n k:Nat):Bool:=(List.range k).all λi=>decide (i<n) ||(List.range i).all λj=>(tbl.getD i 0).testBit j
def RB(tbl:List Nat)(k:Nat):Nat->Nat
 |0=>0
 |n+1=>if((List.range n).all λj=>(tbl.getD n 0).testBit j)=true then RB tbl k n else n+1
def Gi(ops:Array Oper)(los:List aj)(n:Nat):Bool :=
 let tbl:=nG ops.toList []
 Wj los&&adt tbl los&&Qv ops&&ZB ops tbl&&Vr tbl n ops.size
def MJ(ops:Array Oper)(listed:Array Bool):Prop:=∀(i:Nat) (o:Oper),listed.getD i false=true->ops[i]?=some o->∀e∈o.after,Region.binds .any e=true->listed.getD e.on false=true
theorem VL{ops:Array Oper}(a:ZB ops tbl=true){o:Oper}(b:ops[i]?=some o):tbl.getD i 0=Wk tbl o:=by have:=aev.1 a (o,i) (by rw[age];simpa using b);simp_all
theorem GV{ops:Array Oper}(h:Qv ops=true){o:Oper}(a:ops[i]?=some o){e:Edge}(b:e∈o.after)(c:Region.binds .any e=true):e.on<i:=by
 have:=aev.1 h (o,i) (by rw[age];simpa using a)
 grind
theorem Sc{ops:Array Oper}(h:Qv ops=true)(f:ZB ops tbl=true):∀(i j:Nat),i<ops.size->(tbl.getD i 0).testBit j=true->j<i:=by
 intro i;induction i using Nat.strongRecOn with
 | _ i ih =>
   intro j k a;have b:ops[i]?=some ops[i]:=ae7 k;rw[VL f b]at a;obtain⟨e,d,g,a⟩:=Ry a;have c:=GV h b (by simpa using d) g
   grind
theorem fp{ops:Array Oper}(h:Qv ops=true)(r:ZB ops tbl=true){a:Array Bool}(p:MJ ops a):∀(i j:Nat),i<ops.size ->
  (∀o,ops[i]?=some o->∀e∈o.after,Region.binds .any e=true->a.getD e.on false=true)->(tbl.getD i 0).testBit j=true->a.getD j false=true:=by
 intro i;induction i using Nat.strongRecOn with
 | _ i ih =>
   intro j s l b;have c:ops[i]?=some ops[i]:=ae7 s;rw[VL r c]at b;obtain⟨e,m,n,b⟩:=Ry b;have f:=GV h c (by simpa using m) n;have u:=l _ c e (by simpa using m) n;rcases b with rfl|b
   .omega
   .exact ih e.on f j ahd (λq k t g d=>p e.on q u k t g d) b
theorem XI:∀(l:List Bool) (i:Nat),l[i]?=some false->(l.set i true).count false+1=l.count false
 |[],i,h=>by simp at h
 |b::l,0,h=>by simp at h;subst h;simp
 |b::l,i+1,h=>by grind
theorem yJ{P:Program}{N:Nat}{own:Nat->Nat}{ops:Array Oper}:∀{is:List Nat}{a:List aj},bp P N own ops is=some a->a.length=is.length/\∀(k i:Nat),is[k]?=some i->∃b,a[k]?=some b/\mc P N own ops i=some b
 |[],a,h=>by simp[bp]at h;subst h;simp
 | j::is,a,h=>by
   simp only[bp]at h;split at h<;>try cases h
   rename_i o m d c;have:=yJ c
   grind
section
variable {P:Program}{r:Option Nat}{w0:World}{S0:SB}{N:Nat}{own:Nat->Nat}{ops:Array Oper}{L:List Blk}
theorem Z4{i:Nat}{q:aj}(O:mc P N own ops i=some q){T:Tm}{v:AV}{E:Env}{a:Act}{w:World}(h:St w0 S0 N E T L a w)(m:AQ P q T L v){K:Act->World->Prop}{Q:Exit->Act->World->Prop}(s:∀E' y w',E.le E'->St w0 S0 N E' (bz q.dst v T) L y w'->K y w'):wpOpIn (fo r) 0 P ops Q i K a w:=by
 obtain⟨o,R,p,l,hd,H⟩:=iw O;obtain⟨W,k,C⟩:=q;simp only at p l H s;subst l;unfold wpOpIn;simp only[R];have n:AQv P ⟨o.dst,k,C⟩ T L v->AOp P ⟨o.dst,k,C⟩ (λT' L'=>T'=bz o.dst v T/\L'=L) T L:=λd=>by
  unfold AQv at d;unfold AOp;simp only at d⊢;split at d;split at d;rename_i f xs _ args D;show Cal P f _ o.dst T L (iz T xs);rw[D];exact d.mono λav L' ⟨z,B⟩=>by subst z;exact⟨rfl,B⟩
  simp_all;split at d;rename_i f xs _ _ g caps args A G;show X2 P _ o.dst T L (evX T f) (iz T xs);rw[A,G];exact d.mono λav L' ⟨z,B⟩=>by subst z;exact⟨rfl,B⟩
  simp_all;split at d;rename_i c av L' D;have M:Res (λT' L'=>T'=bz o.dst v T/\L'=L) o.dst T (ak T L k):=by rw[D];obtain⟨U,rfl,rfl⟩:=d;exact⟨U,rfl,rfl⟩
  simp_all;simp_all
 have go:AQv P ⟨o.dst,k,C⟩ T L v->o.wpIn (fo r) 0 P a w K Q:=λd =>
  GU p hd h (n d) λE' T' L' y w' S V J=>by grind
 unfold AQ at m;rcases H with⟨g1,F⟩|⟨j,b,t,g1,F,g3,g4⟩;subst F;simp only at m;rw[if_pos (by simp[Region.wanted,g1])];simp[*];subst g4;simp only at m;have I:=ke (E:=E) (T:=T) (a:=a) (ops:=ops) h.2.1 F (by rw[h.2.2.1];exact g3);split at m;rename_i x u;have:=I.1 x u;by_cases e:x=b;rw[if_pos e]at m;rw[if_pos (by simp[Region.wanted,g1,this,e])];simp[*];rw[if_neg e]at m;subst m;rw[if_neg (by simp[Region.wanted,g1,this,e])];exact⟨λ_ _=>trivial,s E _ w (.refl E) (JO h hd)⟩;rename_i u;have:=I.2 u;subst m;rw[if_neg (by simp[Region.wanted,g1,this])];exact⟨λ_ _=>trivial,s E _ w (.refl E) (JO h hd)⟩;simp_all
theorem Qs{i:Nat}{p:aj}(C:mc P N own ops i=some p){T:Tm}{L:List Blk}{E:Env}{a:Act}{w:World}(c:St w0 S0 N E T L a w){K:Tm->List Blk->Prop}(h:l7 P K [p] T L){m:Act->World->Prop}{Q:Exit->Act->World->Prop}(A:∀E' T' L' k w',E.le E'->K T' L'->St w0 S0 N E' T' L' k w'->m k w'):wpOpIn (fo r) 0 P ops Q i m a w:=by
 obtain⟨o,D,q,f,hd,F⟩:=iw C;obtain⟨H,s,G⟩:=p;subst f;unfold wpOpIn;simp only[D];have go:AOp P ⟨o.dst,s,G⟩ (l7 P K []) T L->o.wpIn (fo r) 0 P a w m Q:=λn =>
  GU q hd c n λE' T' L' k w' y z g=>A E' T' L' k w' y z g
 have d:K (bz o.dst (.tup []) T) L->m (a.put o.dst undef) w:=λn=>A E _ L _ w (.refl E) n (JO c hd)
 rcases F with⟨g1,v⟩|⟨j,b,t,g1,v,g3,g4⟩;subst v;rw[if_pos (by simp[Region.wanted,g1])];exact(go h);subst g4;simp only[l7]at h;have B:=ke (E:=E) (T:=T) (a:=a) (ops:=ops) c.2.1 v (by rw[c.2.2.1];exact g3);rcases hx:ar T t with _|u;rw[hx]at h;exact h.elim;rw[hx]at h;cases u<;>try exact h.elim
 rename_i x;rw[yz]at h;have:=B.1 x hx;by_cases e:x=b;rw[if_pos (by simp[Region.wanted,g1,this,e])];rw[if_pos e]at h;exact(go h);rw[if_neg (by simp[Region.wanted,g1,this,e])];rw[if_neg e]at h;exact⟨λ_ _=>trivial,d h⟩;rename_i l;cases l with
 |cons _ _=>exact h.elim
 | nil =>
   have:=B.2 hx;rw[if_neg (by simp[Region.wanted,g1,this])];exact⟨λ_ _=>trivial,d h⟩
theorem Ut{M:List aj}{tbl:List Nat}{n:Nat}(F:bp P N own ops (List.range ops.size)=some M)(c:Qv ops=true)(G:ZB ops tbl=true)(s:Vr tbl n ops.size=true){K:Tm->List Blk->Prop}{Q:Exit->Act->World->Prop}{E0:Env}(hQ:∀E' T' L' O w',E0.le E'->K T' L'->St w0 S0 N E' T' L' O w'->Q .normal O w'):
  ∀(ts:List aj) (k:Nat) (b:Array Bool) (T:Tm) (L:List Blk) (a:Act) (w:World) (E:Env),n<=k->k+ts.length=ops.size->M.drop k=ts->b.size=ops.size ->
   (∀i,i<ops.size->b.getD i false=decide (i<k))->MJ ops b->E0.le E->St w0 S0 N E T L a w->l7 P K ts T L->wpAnyIn (fo r) 0 P .any ops Q ts.length b a w:=by
 have D:=yJ F;have q:∀(k:Nat) (b:Array Bool),n<=k->b.size=ops.size->(∀i,i<ops.size->b.getD i false=decide (i<k))->MJ ops b->∀i∈Region.ready .any ops b,i=k:=by
  intro k b u p v f i A;obtain⟨ad,o,V,ab⟩:=mem_ready.1 A;have I:i<ops.size:=(ae1.1 V).1;have C:¬i<k:=λe=>by simp_all
  rcases aeN k i with U|U;have:=aev.1 s i (by simpa using I);simp only[ae4,decide_eq_true_eq]at this;rcases this with h2|h2;omega;have h3:=aev.1 h2 k (by simpa using U);have h4:=fp c G f i k I (λo' m=>by rw[V]at m;cases m;exact ab) h3
  grind
  omega
 intro ts;induction ts with
 | nil =>
   intro k b T L a w E u hk x p v f X z h;refine⟨List.eq_nil_iff_forall_not_mem.2 (λi A=>?_),hQ E T L a w X h z⟩;have U:=q k b u p v f i A;obtain⟨_,o,V,_⟩:=mem_ready.1 A;simp_all
 | cons t ts ih =>
   intro k b T L a w E u hk x p v f X z h;simp only[aeB]at hk;have y:k<ops.size:=ahd;have J:k∈Region.ready .any ops b:=by
    refine mem_ready.2 ⟨?_,ops[k],ae7 y,λe R W=>?_⟩
    .simp_all
    .have:=GV c (ae7 y) R W;rw[v _ ahd];simpa using this
   refine⟨λe=>absurd J (by rw[e];simp),λi A=>?_⟩;have C:=q k b u p v f i A;subst C;obtain⟨S,g1,g2⟩:=D.2 i i (by simp[y]);have ht:S=t:=by have:=congrArg (λl=>l[0]?) x;simp only[aeX,afC,afc]at this;rw[g1]at this;exact Option.some.inj this
   subst ht;have h':l7 P (l7 P K ts) [S] T L:=by obtain⟨d,op,g⟩:=S;cases g<;>exact h
   exact Qs g2 z h' λE' T' L' O w' Y Z H=>by
    refine ih (i+1) (b.setIfInBounds i true) T' L' O w' E' ahd ahd ?_ (by simpa using p) (λj B=>?_) ?_ (X.trans Y) H Z
    .rw[<- afU,x];rfl
    .by_cases e:j=i
     .subst e;have:j<b.size:=ahd;simp[afD,this]
     .rw[getD_set_ne false (Ne.symm e),v j B];congr 1;apply propext;omega
    .intro j o' B m e R hb;have h5:=GV c m R hb;have h6:j<ops.size:=(ae1.1 m).1;by_cases e1:j=i
     .subst e1;rw[getD_set_ne false ahd,v _ ahd];simpa using h5
     .rw[getD_set_ne false (Ne.symm e1)]at B;rw[getD_set_ne false (by rw[v j h6]at B;simp at B;omega)];exact f j o' B m e R hb
def lst(L:List Blk)(al:Option (Nat×List AV))(listed:Array Bool):List Blk :=
 match al with
 |some (i,z)=>if listed.getD i false=true then L++[.cells z]else L
 |none=>L
end
end Go.Proofs.YtajkbcmleihaoaaGreatDoor.Av
