/- Joined texts of the walk, made small by a program. -/
import Derived.Test.YtajkbcmleihaoaaGreatDoorVk2
import Derived.MapKept
set_option linter.unusedSimpArgs false
set_option linter.unusedVariables false
namespace Go.Proofs.YtajkbcmleihaoaaGreatDoor.Av
open Go
variable {f:FuncId}{i t:Nat}{args:List AV}{K:Tm->List Blk->Prop}{d:Option Nat}{b:Bool}{v:AV}{tbl:List Nat}
section
variable {P:Program}{w0:World}{S0:SB}{E:Env}{L:List Blk}{w:World}{T:Tm}{a:Act}
theorem YY{own:Nat}{s d:TypeId}{x:Operand}{r:Opd}{z:LOp}{c:Prop}{av:AV}{L':List Blk}(p:Rel w0 S0 E L w)(m:TR E T a)(o:aZ x=some r)(h:zb P own s d r=some z)(b:ak T L z=some (c,av,L'))(y:c):
  dE P w0 S0 E L' av w (do pure (.value (<- convert s d (a.eval x)))):=by
 unfold zb at h;split at h;rename_i j k i hd;cases h;simp only[ak]at b;split at b<;>try cases b
 rename_i q n g;exact(X1 p ⟨j,i⟩ hd (ah o g m)).done;rename_i i hd;cases h;simp only[ak]at b;split at b<;>try cases b
 rename_i l g;exact(VF p i hd (ah o g m) ⟨l,rfl⟩).done;rename_i e i hd;split at h<;>try cases h
 rename_i f;simp only[ak]at b;split at b<;>try cases b
 rename_i u B g;split at b<;>try cases b
 rename_i c' l n A;exact(ZX p i f hd (ah o g m) A y.1 y.2 (λt e=>B t e)).done
 .rename_i e i hd;split at h<;>try cases h
  rename_i f
  repeat' split at h
  all_goals cases h
  simp only[ak]at b;split at b<;>try cases b
  rename_i v g;exact(XV p i hd f (ah o g m)).done;simp only[ak]at b;split at b<;>try cases b
  rename_i v g;exact(XW p i hd f (ah o g m)).done;simp only[ak]at b;split at b<;>try cases b
  rename_i v g;exact(ZU p i hd f (ah o g m)).done
 simp_all
theorem WZ{xs:List Operand}{a:List Opd}(h:nS xs=some a):a.length=xs.length/\∀(i:Nat) (y:Opd),a[i]?=some y->∃x,xs[i]?=some x/\aZ x=some y:=by
 induction xs generalizing a with
 |nil=>simp[nS]at h;subst h;simp
 | cons x xs ih =>
   simp only[nS,ahq]at h;rcases h1:aZ x with _|y
   .simp_all
   .rcases h2:xs.mapM aZ with _|b
    .simp_all
    .have:=ih (by simpa[nS]using h2)
     grind
theorem aav{xs:List Operand}{y:Opd}(h:nS xs=some [y]):∃x,xs=[x]/\aZ x=some y:=by
 have:=WZ h
 match xs,this with
 | [x],⟨_,h2⟩ =>
   obtain⟨z,a,h4⟩:=h2 0 y ah4
   grind
theorem UE{xs:List Operand}{y z:Opd}(h:nS xs=some [y,z]):∃u v,xs=[u,v]/\aZ u=some y/\aZ v=some z:=by
 have:=WZ h
 match xs,this with
 | [u,v],⟨_,h2⟩ =>
   obtain⟨p,b,h4⟩:=h2 0 y ah4;obtain⟨q,a,c⟩:=h2 1 z ah4
   grind
theorem abj{own:Nat}{t:TypeId}{y:Opd}{xs:List Operand}{ty:TypeId}{cs:Array Bool}{B:LOp}{c:Prop}{av:AV}{L':List Blk}(C:Rel w0 S0 E L w)(z:TR E T a)(H:nS xs=some [y])(l:cw P own .len [t] [y]=some B)(j:ak T L B=some (c,av,L')):dE P w0 S0 E L' av w (builtin .len ⟨[t]⟩ ty cs ⟨xs.map a.eval⟩):=by
 obtain⟨x,rfl,k⟩:=aav H;have i:∀(n:Int),(Builtin.len_ #[t] ty #[a.eval x]).run P w=.ok (.int .i64 n) w->dE P w0 S0 E L (.int .i64 n) w (builtin .len ⟨[t]⟩ ty cs ⟨[x].map a.eval⟩):=λn h=>.same C (v:=.int .i64 n) (by simp[builtin,h]) (by simp[VR])
 simp only[cw]at l;split at l;rename_i hd;cases l;simp only[ak]at j;split at j<;>try cases j
 rename_i s m;have g:=ah k m z;simp only[VR]at g;have u:(ByteArray.mk ⟨s⟩).size=s.length:=rfl;exact i _ (by simp only[Builtin.len_,agW,afW,ae8,run_underlying hd,ae9,g,goInt,u,afv])
 .rename_i e hd;cases l;simp only[ak]at j;split at j<;>try cases j
  all_goals rename_i m;have g:=ah k m z
  simp only[VR]at g;exact i _ (by simp[Builtin.len_,run_underlying hd,g,goInt]);obtain⟨_,_,g,_⟩:=g;exact i _ (by simp[Builtin.len_,run_underlying hd,g,goInt]);obtain⟨_,_,g,_⟩:=g;exact i _ (by simp[Builtin.len_,run_underlying hd,g,goInt]);obtain⟨_,_,g⟩:=g.lsl_shape;exact i _ (by simp[Builtin.len_,run_underlying hd,g,goInt])
 rename_i n e hd;cases l;obtain⟨rfl,rfl,rfl⟩:=j;exact i _ (by simp[Builtin.len_,run_underlying hd,goInt])
 .rename_i kt et hd;cases l;simp only[ak]at j;split at j<;>try cases j
  all_goals rename_i m;have g:=ah k m z
  simp only[VR]at g;exact i _ (by simp[Builtin.len_,run_underlying hd,g,goInt]);split at j<;>try cases j
  rename_i es ck G;obtain⟨d,A,g⟩:=g;obtain⟨I,rs,g1,D,g3⟩:=C.blk _ _ G;rw[A]at g1;cases g1;have o:∀{es:List (AV×AV×Nat)}{rs:List MapEntry},aA E es rs->rs.length=es.length:=by
   intro es;induction es with
   |nil=>intro rs h;simp only[aA]at h;subst h;rfl
   |cons p es ih=>intro rs h;obtain⟨q,y,b⟩:=p;obtain⟨f,s,rfl,_,_,_,g4⟩:=h;simp[ih g4]
  have F:(getObj d.blk).run P w=.ok (.map rs ck) w:=(by simp[getObj,Sem.run,D]);have r:rs.size=es.length:=(by rw[<- o g3];simp);exact i _ (by simp[Builtin.len_,run_underlying hd,g,goInt,F,r])
 simp_all
theorem abl{own:Nat}{t:TypeId}{y:Opd}{xs:List Operand}{ty:TypeId}{cs:Array Bool}{k:LOp}{c:Prop}{av:AV}{L':List Blk}(p:Rel w0 S0 E L w)(m:TR E T a)(o:nS xs=some [y])(g:cw P own .cap [t] [y]=some k)(f:ak T L k=some (c,av,L')):dE P w0 S0 E L' av w (builtin .cap ⟨[t]⟩ ty cs ⟨xs.map a.eval⟩):=by
 obtain⟨x,rfl,j⟩:=aav o;have b:∀(n:Int),(Builtin.cap_ #[t] ty #[a.eval x]).run P w=.ok (.int .i64 n) w->dE P w0 S0 E L (.int .i64 n) w (builtin .cap ⟨[t]⟩ ty cs ⟨[x].map a.eval⟩):=λn h=>.same p (v:=.int .i64 n) (by simp[builtin,h]) (by simp[VR])
 simp only[cw]at g;split at g
 .rename_i e hd;cases g;simp only[ak]at f;split at f<;>try cases f
  all_goals rename_i l;have d:=ah j l m;simp only[VR]at d
  exact b _ (by simp[Builtin.cap_,run_underlying hd,d,goInt]);obtain⟨_,_,d,_,i,_⟩:=d;exact b _ (by simp[Builtin.cap_,run_underlying hd,d,goInt,i _ rfl]);obtain⟨_,_,_,_,d,_,_,i,_⟩:=d;exact b _ (by simp[Builtin.cap_,run_underlying hd,d,goInt,i _ rfl])
 rename_i n e hd;cases g;simp only[ak,evX,afi,aeZ,afb]at f;obtain⟨rfl,rfl,rfl⟩:=f;exact b _ (by simp[Builtin.cap_,run_underlying hd,goInt]);simp_all
theorem RW{t ty:TypeId}{q:TypeDesc}{x:AV}{p:Value}(j:Rel w0 S0 E L w)(l:P.underlying t=some q)(g:VR E x p):
  (x=.nilmap->bN P w0 S0 E L (.tup []) w (Builtin.clear_ #[t] ty #[p])) /\
  (∀i es ck,x=.lmap i->L[i]?=some (.map es ck)->bN P w0 S0 E (L.set i (.map [] ck)) (.tup []) w (Builtin.clear_ #[t] ty #[p])):=by
 refine⟨λn=>?_,λi es ck n k=>?_⟩<;>subst n<;>simp only[VR]at g;subst g;exact .same j (v:=.tuple #[]) (by simp[Builtin.clear_,run_underlying l]) ⟨[],rfl,rfl⟩;obtain⟨c,f,rfl⟩:=g;obtain⟨c',rs,m,a,s⟩:=j.blk i _ k;rw[f]at m;cases m;have h:c.blk<w.heap.size:=(afJ.1 a).1;have r:(getObj c.blk).run P w=.ok (.map rs ck) w:=by simp[getObj,Sem.run,a]
 have d:(setObj c.blk (.map #[] ck)).run P w=.ok () {w with heap:=w.heap.setIfInBounds c.blk (.map #[] ck)}:=by simp[setObj,Sem.run,a]
 refine⟨E,.tuple #[],{w with heap:=w.heap.setIfInBounds c.blk (.map #[] ck)},by simp[Builtin.clear_,run_underlying l,r,d],.refl E,⟨[],rfl,rfl⟩,?_⟩;exact j.turn (w':={w with heap:=w.heap.setIfInBounds c.blk (.map #[] ck)}) (k':=.map [] ck) k rfl f ah4 (λb o=>by simp[agV,Ne.symm o]) rfl rfl rfl
  ⟨c,#[],f,by simp[h],by simp[aA]⟩ (λ_ _ e=>by cases e)
theorem Tp{own:Nat}{b:Builtin}{ts:List TypeId}{xs:List Operand}{W:List Opd}{ty:TypeId}{cs:Array Bool}{U:LOp}{c:Prop}{av:AV}{L':List Blk}(x:Rel w0 S0 E L w)(h:TR E T a)(K:nS xs=some W)(f:cw P own b ts W=some U)(d:ak T L U=some (c,av,L'))(I:c)(Q:b=.delete->dE P w0 S0 E L' av w (builtin b ⟨ts⟩ ty cs ⟨xs.map a.eval⟩)):dE P w0 S0 E L' av w (builtin b ⟨ts⟩ ty cs ⟨xs.map a.eval⟩):=by
 have N:=f;unfold cw at f;split at f;exact abj x h K N d;exact abl x h K N d;rename_i t t' y z;obtain⟨u,v,rfl,o,G⟩:=UE K;have key:∀e s j C,P.underlying t=some (.slice e)->((∃X,P.underlying t'=some (.slice X))\/P.underlying t'=some .string)->bJ P e=some s->QO P e=some j->zOf P e=some C->C.length=s->U=.app own s j C y z ->
   dE P w0 S0 E L' av w (builtin .append ⟨[t,t']⟩ ty cs ⟨[u,v].map a.eval⟩):=λe s j C H J D h4 B F V=>by
  subst V;simp only[ak]at d;split at d<;>try cases d
  rename_i p q g r;exact(ZY x H J D h4 B F (ah o g h) (ah G r h) d I).done
 split at f;rename_i e X H J;split at f<;>try cases f
 rename_i s j C D h4 B;split at f<;>try cases f
 rename_i F;exact key e s j C H (.inl ⟨_,J⟩) D h4 B F rfl;rename_i e H J;split at f<;>try cases f
 rename_i s j C D h4 B;split at f<;>try cases f
 rename_i F;exact key e s j C H (.inr J) D h4 B F rfl;rename_i e q H J;split at f<;>try cases f
 rename_i s j C D h4 B;split at f<;>try cases f
 rename_i F;simp only[ak]at d;split at d<;>try cases d
 rename_i i off m cp s2 q2 k g r;split at d<;>try cases d
 rename_i l M;split at d<;>try cases d
 rename_i A;subst A;exact(X4 x H J D h4 B F (ah o g h) (ah G r h) M I).done;cases f;rename_i t t' y z;obtain⟨u,v,rfl,o,G⟩:=UE K;split at f<;>try cases f
 rename_i e hd;rcases hs:bJ P e with _|s;simp[hs]at f;simp only[hs,afi,aeZ]at f;subst f;simp only[ak]at d;rcases r:evX T z with _|q;simp only[r,Option.bind_none]at d;split at d<;>simp_all;simp only[r,agw]at d;split at d;rename_i c' new n g S;simp only[aeZ,afb]at d;obtain⟨rfl,rfl,rfl⟩:=d;exact((RV x hd hs (ah o g h) (ah G r h) S I).1 rfl).done;rename_i i off m cap Z c' new n g S;split at d<;>try cases d
 rename_i l M;split at d<;>try cases d
 rename_i A;subst A;exact((RV x hd hs (ah o g h) (ah G r h) S I.1).2 _ _ _ _ _ rfl M I.2.1 I.2.2).done;cases d
 .rename_i t y;obtain⟨u,rfl,o⟩:=aav K;split at f<;>try cases f
  rotate_left
  rename_i kt et hd;simp only[ak]at d;split at d<;>try cases d
  rename_i g;exact((RW x hd (ah o g h)).1 rfl).done;rename_i i g;split at d<;>try cases d
  rename_i es ck Y;exact((RW x hd (ah o g h)).2 _ _ _ rfl Y).done;rename_i e hd;split at f<;>try cases f
  rename_i s C D B;split at f<;>try cases f
  rename_i F;simp only[ak]at d;split at d<;>try cases d
  rename_i g;exact((Qg x hd D B F (ah o g h)).1 rfl).done;rename_i i off m cap Z g;split at d<;>try cases d
  rename_i l M;split at d<;>try cases d
  rename_i A;subst A;exact((Qg x hd D B F (ah o g h)).2 _ _ _ _ _ rfl M I).done
 exact Q rfl;rename_i y z;obtain⟨u,v,rfl,o,G⟩:=UE K;cases f;simp only[ak]at d;split at d<;>try cases d
 rename_i k m k' n g r;have O:=ah o g h;have R:=ah G r h;simp only[VR]at O R;refine .same x (v:=.int k (if n>m then n else m)) ?_ (by simp[VR]);simp[builtin,Builtin.max_,Builtin.max2,O,R];rename_i y z;obtain⟨u,v,rfl,o,G⟩:=UE K;cases f;simp only[ak]at d;split at d<;>try cases d
 rename_i k m k' n g r;have O:=ah o g h;have R:=ah G r h;simp only[VR]at O R;refine .same x (v:=.int k (if n<m then n else m)) ?_ (by simp[VR]);simp[builtin,Builtin.min_,Builtin.min2,O,R];cases f
end
open Go Go.MapKept
section
variable {P:Program}{w0:World}{S0:SB}{E:Env}{L:List Blk}{w:World}{T:Tm}{a:Act}
def lG.desc:lG->TypeDesc->Prop
 |.int,d=>∃k,d=.int k
 |.str,d=>d=.string
 |.bool,d=>d=.bool
 |.st _,_=>False
def lG.flat:lG->Bool
 |.st _=>false
 |_=>true
theorem OB{c:TypeId}{kd:lG}(h:fH P c=some kd)(b:kd.flat=true):∃d,P.underlying c=some d/\kd.desc d:=by
 unfold fH at h;split at h<;>try simp only[aeZ,reduceCtorEq]at h
 rename_i k a;subst h;exact⟨_,a,k,rfl⟩;rename_i a;subst h;exact⟨_,a,rfl⟩;rename_i a;subst h;exact⟨_,a,rfl⟩;split at h;simp only[afr]at h;obtain⟨_,_,rfl⟩:=h;cases b;cases h
theorem RS{kd:lG}{d:TypeDesc}{k q:AV}{u v:Value}{b:Bool}(hd:kd.desc d)(c:kd.flat=true)(i:aU kd k=true)(f:VR E k u)(g:VR E q v)(h:yF k q=some b):Instr.sameNow d u v=some b:=by
 cases kd<;>try (cases c;done)
 all_goals cases k<;>simp only[aU,afm]at i<;>cases q<;>simp only[yF,reduceCtorEq]at h<;>simp only[VR]at f g<;>subst f<;>subst g<;>simp only[lG.desc]at hd
 obtain⟨k,rfl⟩:=hd;split at h<;>simp only[aeZ,reduceCtorEq]at h;rename_i e;subst e;subst h;simp only[Instr.sameNow,if_true];rfl;subst hd;simp only[aeZ]at h;subst h;simp only[Instr.sameNow,aeZ];rename_i a b;by_cases e:a=b;subst e;simp[bytes_beq];simp only[e,decide_false];rcases h':(({data:={toList:=a}}:ByteArray) == {data:={toList:=b}})with _|_;rfl;have:=(bytes_beq _ _).1 h';simp_all;subst hd;simp only[aeZ]at h;subst h;rfl
theorem XP{kd:lG}{c:TypeId}{d:TypeDesc}{k:AV}{u:Value}(a:P.underlying c=some d)(hd:kd.desc d)(f:aU kd k=true)(b:VR E k u)(e:Bool)(n:Nat):(Instr.checkKey e (n+1) c u).run P w=.ok () w:=by
 unfold Instr.checkKey;cases kd<;>try (exact hd.elim)
 all_goals cases k<;>simp only[aU,afm]at f<;>simp only[VR]at b<;>subst b<;>simp only[lG.desc]at hd
 obtain⟨k,rfl⟩:=hd;simp[ae8,run_underlying a,Result.andThen];subst hd;simp[ae8,run_underlying a,Result.andThen];subst hd;simp[ae8,run_underlying a,Result.andThen]
theorem ZG{kd:lG}{k q:AV}{u v:Value}(a:kd.flat=true)(d:aU kd k=true)(b:VR E k u)(c:VR E q v)(h:yF k q=some true)(n:Nat):Instr.sameBits n v u=true:=by
 cases kd<;>try (cases a;done)
 all_goals cases k<;>simp only[aU,afm]at d<;>cases q<;>simp only[yF,reduceCtorEq]at h<;>simp only[VR]at b c<;>subst b<;>subst c
 split at h<;>simp only[aeZ,reduceCtorEq,decide_eq_true_eq]at h;rename_i e;subst e;subst h;simp[Instr.sameBits];simp only[aeZ,decide_eq_true_eq]at h;subst h;simp[Instr.sameBits,bytes_beq];simp only[aeZ,decide_eq_true_eq]at h;subst h;simp[Instr.sameBits]
theorem P2{kd:lG}{d:TypeDesc}{k:AV}{u:Value}(hd:kd.desc d)(a:kd.flat=true)(m:aU kd k=true)(f:VR E k u):∀{es:List (AV×AV×Nat)}{rs:List MapEntry}{i:Nat}{r:Option (Nat×AV)},aA E es rs->bH k es i=some r ->
  match r with
  |none=>Instr.findNow d u rs i=some none
  |some (j,x)=>∃c e q b,j=i+c/\Instr.findNow d u rs i=some (some (i+c,e.val))/\rs[c]?=some e/\es[c]?=some (q,x,b)/\VR E x e.val/\VR E q e.key/\yF k q=some true
 |[],rs,i,r,hm,h=>by simp only[aA]at hm;subst hm;simp only[bH,aeZ]at h;subst h;rfl
 | (q,x,b)::l,rs,i,r,hm,h=>by
   obtain⟨e,t,rfl,g,s,B,h4⟩:=hm;simp only[bH]at h;split at h
   .rename_i hq;simp only[aeZ]at h;subst h;have:=RS hd a m f g hq;exact⟨0,e,q,b,rfl,by simp[Instr.findNow,this],rfl,rfl,s,g,hq⟩
   .rename_i hq;have o:=RS hd a m f g hq;have n:=P2 hd a m f h4 h;cases r with
    |none=>simp only at n⊢;simp[Instr.findNow,o,n]
    | some p =>
      obtain⟨j,y⟩:=p;obtain⟨c,z,v,A,rfl,g1,w,g3,g4⟩:=n;exact⟨c+1,z,v,A,ah3,by simp[Instr.findNow,o,g1];omega,by simpa using w,by simpa using g3,g4⟩
   .cases h
theorem aca{t:TypeId}{k:zB}(h:Vn P t=some k)(e:Bool)(n:Nat)(v:Value)(w:World):(Instr.checkKey e (n+1) t v).run P w=.ok () w:=by unfold Instr.checkKey;rcases MM h with⟨_,q,a⟩|⟨_,a⟩|⟨_,a⟩<;>simp[ae8,run_underlying a,Result.andThen]
theorem aam{c:TypeId}{a:List zB}{b:Array Field}{cs:Array Value}(p:P.underlying c=some (.struct b))(q:GW P 0 b.toList a)(s:a.length<=cs.size)(e:Bool)(n:Nat)(w:World):
  (Instr.checkKey e (n+2) c (.agg cs)).run P w=.ok () w:=by
 have key:∀ (l:List Field) (a:List zB) (i:Nat),GW P i l a->i+a.length<=cs.size->∀ (body:Field->PUnit->Sem (ForInStep PUnit)),(∀ f u,body f u=if f.name ≠ "_" then (do let x <- part f.type cs f.offset;Instr.checkKey e (n+1) f.type x;pure (ForInStep.yield PUnit.unit)) else pure (ForInStep.yield PUnit.unit))->(forIn l PUnit.unit body).run P w=.ok PUnit.unit w:=by
  intro l;induction l with
  |nil=>intro a i _ _ body _;simp
  | cons f l ih =>
    intro a i h m body g;cases a with
    |nil=>simp[GW]at h
    | cons k a =>
      obtain⟨o,j,d,h4⟩:=h;simp only[afg]at m;obtain⟨v,r⟩:∃v,cs[i]?=some v:=⟨_,afR ah3⟩;rw[List.forIn_cons,g,if_pos j,o];simp only[ae8,Vf d r,aca d,ae9,afv]
      grind
 unfold Instr.checkKey;simp only[ae8,run_underlying p,ae9];have:=key b.toList a 0 q ah3 _ (λf u=>rfl);simp_all
theorem OJ{c:TypeId}{v:List zB}{z:Array Field}(m:P.underlying c=some (.struct z))(f:P.stoodInHeld c=false)(n:GW P 0 z.toList v){l:List AV}{u:Value}(g:sJ v l=true)(d:VR E (.agg l) u)(w:World):∀{es:List (AV×AV×Nat)}{rs:List MapEntry}{i:Nat}{r:Option (Nat×AV)},aA E es rs->bH (.agg l) es i=some r ->
  match r with
  |none=>(Instr.findAsking c u rs i).run P w=.ok none w
  |some (j,x)=>∃a e q b,j=i+a/\(Instr.findAsking c u rs i).run P w=.ok (some (i+a,e.val)) w/\rs[a]?=some e/\es[a]?=some (q,x,b)/\VR E x e.val/\VR E q e.key/\yF (.agg l) q=some true
 |[],rs,i,r,hm,h=>by simp only[aA]at hm;subst hm;simp only[bH,aeZ]at h;subst h;rfl
 | (q,x,b)::es,rs,i,r,hm,h=>by
   obtain⟨e,t,rfl,k,A,G,h4⟩:=hm;simp only[bH]at h;split at h
   .rename_i hq;simp only[aeZ]at h;subst h;have:=Qm m f n g d k hq w;exact⟨0,e,q,b,rfl,by simp[Instr.findAsking,this],rfl,rfl,A,k,hq⟩
   .rename_i hq;have s:=Qm m f n g d k hq w;have o:=OJ m f n g d w h4 h;cases r with
    |none=>simp only at o⊢;simp[Instr.findAsking,s,o]
    | some p =>
      obtain⟨j,y⟩:=p;obtain⟨a,D,B,F,rfl,g1,C,g3,g4⟩:=o;exact⟨a+1,D,B,F,ah3,by simp[Instr.findAsking,s,g1];omega,by simpa using C,by simpa using g3,g4⟩
   .cases h
theorem aat:∀{l m:List AV}{us vs:List Value}{d:List zB}(n:Nat),sJ d l=true->VRL E l us->VRL E m vs->D9 l m=some true->us.length=vs.length/\((vs.zip us).all λ(x,y)=>Instr.sameBits n x y)=true
 | [],m,us,vs,d,n,hp,hl,hm,hq=>by
   cases m with
   |cons b m=>simp[D9]at hq
   |nil=>simp only[VRL]at hl hm;subst hl;subst hm;simp
 | a::l,m,us,vs,d,n,hp,hl,hm,hq=>by
   cases m with
   |nil=>simp[D9]at hq
   | cons b m =>
     cases d with
     |nil=>simp[sJ]at hp
     | cons k d =>
       simp only[sJ,ae7]at hp;obtain⟨u,o,rfl,h,f⟩:=hl;obtain⟨v,q,rfl,i,g⟩:=hm;simp only[D9]at hq;cases hk:P7 a b with
       |none=>rw[hk]at hq;cases hq
       | some c =>
         rw[hk]at hq;cases c with
         |false=>simp at hq
         | true =>
           obtain⟨j,p⟩:=aat n hp.2 f g hq;refine⟨by simp[j],?_⟩;simp only[List.zip_cons_cons,af2,p,agL];cases a<;>cases b<;>simp only[P7,reduceCtorEq]at hk<;>simp only[VR]at h i<;>subst h<;>subst i
           .simp only[aeZ,decide_eq_true_eq]at hk;subst hk;simp[Instr.sameBits]
           .split at hk<;>simp only[aeZ,reduceCtorEq,decide_eq_true_eq]at hk;rename_i e;subst e;subst hk;simp[Instr.sameBits]
           .simp only[aeZ,decide_eq_true_eq]at hk;subst hk;simp[Instr.sameBits,bytes_beq]
theorem mC{kd:lG}{h:TypeId}{k:AV}{u:Value}(a:fH P h=some kd)(c:aU kd k=true)(g:VR E k u)(e:Bool):(Instr.checkKey e 10000 h u).run P w=.ok () w:=by
 cases hfl:kd.flat with
 | true =>
   obtain⟨d,f,i⟩:=OB a hfl;exact XP f i c g e 9999
 | false =>
   cases kd<;>simp only[lG.flat,reduceCtorEq]at hfl;obtain⟨l,f,i,j⟩:=MN a;cases k<;>simp only[aU,afm]at c;obtain⟨us,rfl,b⟩:=g;exact aam f j (by rw[RG c];simp[b.length]) e 9998 w
theorem XQ{kd:lG}{k q:AV}{u v:Value}(c:aU kd k=true)(d:VR E k u)(e:VR E q v)(h:yF k q=some true):Instr.sameBits 10000 v u=true:=by
 cases hfl:kd.flat with
 |true=>exact ZG hfl c d e h 10000
 | false =>
   cases kd<;>simp only[lG.flat,reduceCtorEq]at hfl;cases k<;>simp only[aU,afm]at c;cases q<;>simp only[yF,reduceCtorEq]at h;obtain⟨us,rfl,a⟩:=d;obtain⟨vs,rfl,b⟩:=e;obtain⟨f,g⟩:=aat 9999 c a b h;simp only[Instr.sameBits,g,agL];simp[f]
theorem yJ{kd:lG}{a:TypeId}{k:AV}{u:Value}(f:fH P a=some kd)(l:aU kd k=true)(m:VR E k u){es:List (AV×AV×Nat)}{rs:List MapEntry}{r:Option (Nat×AV)}(n:aA E es rs)(h:bH k es 0=some r)(w:World):
  match r with
  |none=>(Instr.findKey a u rs).run P w=.ok none w
  |some (j,x)=>∃e q b,(Instr.findKey a u rs).run P w=.ok (some (j,e.val)) w/\rs[j]?=some e/\es[j]?=some (q,x,b)/\VR E x e.val/\VR E q e.key/\yF k q=some true:=by
 cases hfl:kd.flat with
 | true =>
   obtain⟨d,c,g⟩:=OB f hfl;have i:=P2 g hfl l m n h;cases r with
   |none=>exact run_findKey c i
   | some p =>
     obtain⟨j,x⟩:=p;obtain⟨v,e,q,b,rfl,g1,o,g3,g4⟩:=i;exact⟨e,q,b,by have:=run_findKey (P:=P) (w:=w) c g1;exact this,by simpa using o,by simpa using g3,g4⟩
 | false =>
   cases kd<;>simp only[lG.flat,reduceCtorEq]at hfl;obtain⟨y,c,g,t⟩:=MN f;cases k<;>simp only[aU,afm]at l;have i:=OJ c g t l m w n h;have s:(Instr.findKey a u rs).run P w=(Instr.findAsking a u rs 0).run P w:=by
    simp only[Instr.findKey,ae8,run_underlying c,ae9];cases rs with
    |nil=>simp[Instr.findNow,Instr.findAsking]
    |cons e rs=>simp[Instr.findNow,Instr.sameNow]
   grind
theorem VI{t a b:TypeId}(c:Rel w0 S0 E L w)(hd:P.underlying t=some (.map a b)):bN P w0 S0 E (L++[.map [] 0]) (.lmap L.length) w (Instr.makeMap t none):=by have:=c.push (.map #[] 0) (.map [] 0) ⟨w.heap.size,0,0⟩ rfl rfl ⟨⟨w.heap.size,0,0⟩,#[],ah4,ah4,rfl⟩;refine⟨_,.map (some w.heap.size),_,?_,this.1,?_,this.2⟩;rfl;simp only[VR];simp
theorem Tf{t:TypeId}{a:AV}(h:YB P t=some a):∃v,(∀w,(zeroValue t).run P w=.ok v w)/\VR E a v:=by unfold YB at h;simp only[agM]at h;obtain⟨v,⟨i,d,b⟩,c⟩:=h;exact⟨v,λw=>by simp[zeroValue,typeInfo,d,b],P3 c⟩
theorem Pj(b:Rel w0 S0 E L w){i:Nat}{es:List (AV×AV×Nat)}{ck:Nat}{u:Value}(a:L[i]?=some (.map es ck))(d:VR E (.lmap i) u):
  ∃c rs,E.loc i=some c/\u=.map (some c.blk)/\w.heap[c.blk]?=some (.map rs ck)/\aA E es rs.toList:=by
 simp only[VR]at d;obtain⟨c',rs,g,e,f⟩:=b.blk i _ a;simp_all
theorem VJ{t b g:TypeId}{kd:lG}{z k:AV}{u v:Value}(ok:Bool)(n:Rel w0 S0 E L w)(hd:P.underlying t=some (.map b g))(a:fH P b=some kd)(j:YB P g=some z)(h:VR E .nilmap u)(i:aU kd k=true)(f:VR E k v):
  bN P w0 S0 E L (if ok then .tup [z,.bool false]else z) w (Instr.lookup t u v ok):=by
 simp only[VR]at h;subst h;obtain⟨d,m,h4⟩:=Tf (E:=E) j;have l:∀e,(Instr.checkKey e 10000 b v).run P w=.ok () w:=λe=>mC a i f e
 have c:(Instr.findKey b v []).run P w=.ok none w:=yJ (E:=E) (es:=[]) (r:=none) a i f (by simp[aA]) (by simp[bH]) w;refine .same n (v:=if ok then .tuple #[d,.bool false]else d) ?_ ?_
 .simp[Instr.lookup,run_underlying hd,l,c,m]
  try (cases ok<;>rfl)
 cases ok;simp[*];simp only[if_true,VR];exact⟨[d,.bool false],rfl,by simp[VRL,VR,h4]⟩
theorem XY{t h B:TypeId}{kd:lG}{z k av:AV}{u v:Value}{i ck:Nat}{es:List (AV×AV×Nat)}{r:Option (Nat×AV)}(ok:Bool)(n:Rel w0 S0 E L w)(hd:P.underlying t=some (.map h B))(f:fH P h=some kd)(D:YB P B=some z)(C:L[i]?=some (.map es ck))(F:VR E (.lmap i) u)(A:aU kd k=true)(o:VR E k v)(H:bH k es 0=some r)(d:av=match r with|some (_,x)=>if ok then .tup [x,.bool true]else x|none=>if ok then .tup [z,.bool false]else z):
  bN P w0 S0 E L av w (Instr.lookup t u v ok):=by
 obtain⟨c,rs,K,rfl,G,m⟩:=Pj n C F;obtain⟨l,I,h4⟩:=Tf (E:=E) D;have g:∀e,(Instr.checkKey e 10000 h v).run P w=.ok () w:=λe=>mC f A o e
 have y:(getObj c.blk).run P w=.ok (.map rs ck) w:=by simp[getObj,Sem.run,G]
 have s:=yJ f A o m H w;cases r with
 | none =>
   subst d;have a:(Instr.findKey h v rs.toList).run P w=.ok none w:=s;refine .same n (v:=if ok then .tuple #[l,.bool false]else l) ?_ ?_
   .simp[Instr.lookup,run_underlying hd,y,g,a,I]
    try (cases ok<;>rfl)
   .cases ok
    .simp[*]
    .simp only[if_true,VR];exact⟨[l,.bool false],rfl,by simp[VRL,VR,h4]⟩
 | some p =>
   obtain⟨j,x⟩:=p;subst d;obtain⟨e,q,b,a,J,g3,g4,_⟩:=s;refine .same n (v:=if ok then .tuple #[e.val,.bool true]else e.val) ?_ ?_
   .simp[Instr.lookup,run_underlying hd,y,g,a]
    try (cases ok<;>rfl)
   .cases ok
    .simp[*]
    .simp only[if_true,VR];exact⟨[e.val,.bool true],rfl,by simp[VRL,VR,g4]⟩
theorem aA.app{es:List (AV×AV×Nat)}{k x:AV}{e:MapEntry}:∀{rs:List MapEntry},aA E es rs->VR E k e.key->VR E x e.val->aA E (es++[(k,x,e.born)]) (rs++[e]):=by
 induction es with
 |nil=>intro rs h c a;simp only[aA]at h;subst h;exact⟨e,[],rfl,c,a,rfl,rfl⟩
 | cons p es ih =>
   intro rs h c a;obtain⟨q,y,b⟩:=p;obtain⟨f,t,rfl,g1,d,g3,g4⟩:=h;exact⟨f,t++[e],rfl,g1,d,g3,ih g4 c a⟩
theorem aA.put{k x:AV}{u v:Value}(a:VR E k u)(d:VR E x v):∀{es:List (AV×AV×Nat)}{rs:List MapEntry}{j:Nat},aA E es rs->aA E (Vk k x es j) (rs.modify j λe=>{e with key:=u,val:=v})
 |[],rs,j,h=>by simp only[aA]at h;subst h;simp[Vk,aA]
 |(q,y,b)::es,rs,0,h=>by obtain⟨f,t,rfl,g1,c,g3,g4⟩:=h;exact⟨{f with key:=u,val:=v},t,rfl,a,d,g3,g4⟩
 |(q,y,b)::es,rs,j+1,h=>by obtain⟨f,t,rfl,g1,c,g3,g4⟩:=h;exact⟨f,t.modify j λe=>{e with key:=u,val:=v},ah4,g1,c,g3,aA.put a d (j:=j) g4⟩
theorem XX{t C U:TypeId}{kd:lG}{k x:AV}{u v y:Value}{i ck:Nat}{es:List (AV×AV×Nat)}{r:Option (Nat×AV)}(O:Rel w0 S0 E L w)(hd:P.underlying t=some (.map C U))(n:fH P C=some kd)(I:L[i]?=some (.map es ck))(S:VR E (.lmap i) u)(G:aU kd k=true)(l:VR E k v)(N:VR E x y)(V:bH k es 0=some r):∃w',(Instr.mapUpdate t u v y).run P w=.ok () w'/\Rel w0 S0 E (L.set i (match r with|some (j,_)=>.map (Vk k x es j) ck|none=>.map (es++[(k,x,ck)]) (ck+1))) w':=by
 obtain⟨c,rs,K,rfl,s,g⟩:=Pj O I S;have B:∀e,(Instr.checkKey e 10000 C v).run P w=.ok () w:=λe=>mC n G l e
 have M:(getObj c.blk).run P w=.ok (.map rs ck) w:=by simp[getObj,Sem.run,s]
 have J:=yJ n G l g V w;have H:c.blk<w.heap.size:=(afJ.1 s).1;have m:∀o,(setObj c.blk o).run P w=.ok () {w with heap:=w.heap.setIfInBounds c.blk o}:=λo=>by simp[setObj,Sem.run,s]
 have turn:∀d a f,aA E f (d:Array MapEntry).toList->Rel w0 S0 E (L.set i (.map f a)) {w with heap:=w.heap.setIfInBounds c.blk (.map d a)}:=λd a f D =>
  O.turn (w':={w with heap:=w.heap.setIfInBounds c.blk (.map d a)}) (k':=.map f a) I rfl K ah4 (λb s=>by simp[agV,Ne.symm s]) rfl rfl rfl
   ⟨c,d,K,by simp[H],D⟩ (λ_ _ e=>by cases e)
 cases r with
 | none =>
   have h:(Instr.findKey C v rs.toList).run P w=.ok none w:=J;refine⟨_,?_,turn (rs.push {key:=v,val:=y,born:=ck}) (ck+1) _ (by simpa using aA.app (e:={key:=v,val:=y,born:=ck}) g l N)⟩;simp[Instr.mapUpdate,run_underlying hd,M,B,h,m]
 | some p =>
   obtain⟨j,z⟩:=p;obtain⟨e,q,b,h,R,g3,g4,T,Q⟩:=J;have F:(Instr.keyThatStays e.key v).run P w=.ok v w:=by simp[Instr.keyThatStays,XQ G l T Q]
   have A:rs[j]?=some e:=(by simpa using R);refine⟨_,?_,turn (rs.modify j λe=>{e with key:=v,val:=y}) ck _ (by simpa using aA.put l N (j:=j) g)⟩;simp[Instr.mapUpdate,run_underlying hd,M,B,h,A,F,m]
end
open Go Go.MapKept
section
variable {P:Program}{w0:World}{S0:SB}{E:Env}{L:List Blk}{w:World}{T:Tm}{a:Act}
theorem aA.filt{p:Nat->Bool}:∀{es:List (AV×AV×Nat)}{rs:List MapEntry},aA E es rs->aA E (es.filter λe=>p e.2.2) (rs.filter λe=>p e.born)
 |[],rs,h=>by simp only[aA]at h;subst h;rfl
 | (k,x,b)::es,rs,h=>by
   obtain⟨f,t,rfl,g1,c,g3,g4⟩:=h;have a:=aA.filt (p:=p) g4;subst g3;simp only[List.filter_cons];split
   .exact⟨f,_,rfl,g1,c,rfl,a⟩
   omega
theorem aA.all{p:Nat->Bool}:∀{es:List (AV×AV×Nat)}{rs:List MapEntry},aA E es rs->(rs.all λe=>p e.born)=es.all λe=>p e.2.2
 |[],rs,h=>by simp only[aA]at h;subst h;rfl
 |(k,x,b)::es,rs,h=>by obtain⟨f,t,rfl,g1,a,g3,g4⟩:=h;subst g3;simp only[af2,aA.all (p:=p) g4]
theorem aA.nil_iff{es:List (AV×AV×Nat)}{rs:List MapEntry}(h:aA E es rs):rs.isEmpty=es.isEmpty:=by
 cases es with
 |nil=>simp only[aA]at h;subst h;rfl
 |cons p es=>obtain⟨k,x,b⟩:=p;obtain⟨f,t,rfl,_⟩:=h;rfl
theorem aA.len:∀{es:List (AV×AV×Nat)}{rs:List MapEntry},aA E es rs->rs.length=es.length
 |[],rs,h=>by simp only[aA]at h;subst h;rfl
 |(k,x,b)::es,rs,h=>by obtain⟨f,t,rfl,_,_,_,g4⟩:=h;simp[aA.len g4]
theorem Sx{t d c:TypeId}{v:Value}(b:Rel w0 S0 E L w)(hd:P.underlying t=some (.map d c))(a:VR E .nilmap v):
  bN P w0 S0 E (L++[.miter none 0 [] 0]) (.ptr L.length 0) w (Instr.range t v):=by
 simp only[VR]at a;subst a;have:=b.push (.mapIter none 0 #[] 0) (.miter none 0 [] 0) ⟨w.heap.size,0,0⟩ rfl rfl ⟨⟨w.heap.size,0,0⟩,none,ah4,ah4,rfl,rfl⟩;refine⟨_,.pointer (some ⟨w.heap.size,0,none⟩),_,?_,this.1,?_,this.2⟩;simp[Instr.range,run_underlying hd];simp only[VR];exact⟨⟨w.heap.size,0,0⟩,ah4,rfl⟩
theorem Ue{t h j:TypeId}{v:Value}{i ck:Nat}{es:List (AV×AV×Nat)}(b:Rel w0 S0 E L w)(hd:P.underlying t=some (.map h j))(a:L[i]?=some (.map es ck))(f:VR E (.lmap i) v):
  bN P w0 S0 E (L++[.miter (some i) ck [] ck]) (.ptr L.length 0) w (Instr.range t v):=by
 obtain⟨c,rs,d,rfl,g,k⟩:=Pj b a f;have l:i<L.length:=(aeY.1 a).1;have:=b.push (.mapIter (some c.blk) ck #[] ck) (.miter (some i) ck [] ck) ⟨w.heap.size,0,0⟩ rfl rfl ⟨⟨w.heap.size,0,0⟩,some c.blk,ah4,ah4,rfl,c,by simp only;rw[if_neg ah3];exact d,rfl⟩;refine⟨_,.pointer (some ⟨w.heap.size,0,none⟩),_,?_,this.1,?_,this.2⟩;have e:(getObj c.blk).run P w=.ok (.map rs ck) w:=by simp[getObj,Sem.run,g]
 simp[Instr.range,run_underlying hd,e];simp only[VR];exact⟨⟨w.heap.size,0,0⟩,ah4,rfl⟩
theorem VH{t:TypeId}{v:Value}{i j ck a last:Nat}{seen:List Nat}{es:List (AV×AV×Nat)}{r:Option (AV×AV×Nat)}(C:Rel w0 S0 E L w)(K:L[i]?=some (.miter (some j) a seen last))(X:L[j]?=some (.map es ck))(U:VR E (.ptr i 0) v)(y:Zz es a seen last=some r):
  bN P w0 S0 E (RK L i j a seen ck r) (LV r) w (Instr.next v false t):=by
 obtain⟨c,F,rfl⟩:=U;obtain⟨c',q,M,I,O,d,h4,rfl⟩:=C.blk i _ K;rw[F]at M;cases M;obtain⟨Y,rs,g1,R,g3⟩:=C.blk j _ X;rw[h4]at g1;cases g1;have J:c.blk<w.heap.size:=(afJ.1 I).1;have N:(getObj c.blk).run P w=.ok (.mapIter (some d.blk) a ⟨seen⟩ last) w:=by simp[getObj,Sem.run,I]
 have z:(getObj d.blk).run P w=.ok (.map rs ck) w:=by simp[getObj,Sem.run,R]
 have D:∀o,(setObj c.blk o).run P w=.ok () {w with heap:=w.heap.setIfInBounds c.blk o}:=λo=>by simp[setObj,Sem.run,I]
 rw[O];unfold Zz at y;split at y;simp_all;rename_i B;have g:(!(⟨seen⟩:Array Nat).isEmpty && !rs.isEmpty&&rs.all λe=>decide (e.born≥last))=false:=by
  have e2:rs.isEmpty=es.isEmpty:=(by rw[<- g3.nil_iff];simp);have Z:(rs.all λe=>decide (e.born≥last))=es.all λe=>decide (last<=e.2.2):=by rw[<- aA.all (p:=λb=>decide (last<=b)) g3];simp
  simp[*]
 have u:=aA.filt (p:=λb => !seen.contains b) g3;have n:=aA.filt (p:=λb=>decide (b<a)) u;have m:=aA.filt (p:=λb=>decide (a<=b)) u;have A:∀p:MapEntry->Bool,(rs.filter λe => !(⟨seen⟩:Array Nat).contains e.born).filter p=⟨(rs.toList.filter λe => !seen.contains e.born).filter p⟩:=λp=>by apply Array.toList_inj.1;simp
 split at y;rename_i H G;simp only[aeZ]at y;subst y;rw[H]at n;rw[G]at m;refine .same C (v:=.tuple #[.bool false]) ?_ (by simp[LV,VR,VRL]);have l:((rs.filter λe => !(⟨seen⟩:Array Nat).contains e.born).filter λe=>decide (e.born<a))=#[]:=by rw[A,n]
 have h:((rs.filter λe => !(⟨seen⟩:Array Nat).contains e.born).filter λe=>decide (e.born≥a))=#[]:=by rw[A];exact congrArg Array.mk m
 simp only[Instr.next,ae8,N,z,ae9,g,afm,if_false,l,h];simp[Question.forced];rename_i e H G;simp only[aeZ]at y;subst y;rw[H]at n;rw[G]at m;obtain⟨k,x,b⟩:=e;obtain⟨f,s,T,S,Q,W,rfl⟩:=n;subst W;have l:((rs.filter λe => !(⟨seen⟩:Array Nat).contains e.born).filter λe=>decide (e.born<a))=#[f]:=by rw[A,T]
 have h:((rs.filter λe => !(⟨seen⟩:Array Nat).contains e.born).filter λe=>decide (e.born≥a))=#[]:=by rw[A];exact congrArg Array.mk m
 have turn:=C.turn (w':={w with heap:=w.heap.setIfInBounds c.blk (.mapIter (some d.blk) a ((⟨seen⟩:Array Nat).push f.born) ck)}) (k':=.miter (some j) a (seen++[f.born]) ck) K rfl F ah4 (λb V=>by simp[agV,Ne.symm V]) rfl rfl rfl
  ⟨c,some d.blk,F,by simp[J],O,d,h4,rfl⟩ (λ_ _ e=>by cases e)
 refine⟨E,.tuple #[.bool true,f.key,f.val],_,?_,.refl E,?_,turn⟩;simp only[Instr.next,ae8,N,z,ae9,g,afm,if_false,l,h];simp[Question.forced,D];exact⟨[.bool true,f.key,f.val],rfl,.bool true,[f.key,f.val],rfl,rfl,f.key,[f.val],rfl,S,f.val,[],rfl,Q,rfl⟩;cases y
theorem Uf{t:TypeId}{v:Value}{i a last:Nat}{seen:List Nat}(d:Rel w0 S0 E L w)(e:L[i]?=some (.miter none a seen last))(h:VR E (.ptr i 0) v):
  bN P w0 S0 E L (.tup [.bool false]) w (Instr.next v false t):=by
 obtain⟨c,f,rfl⟩:=h;obtain⟨c',q,b,j,k,h4⟩:=d.blk i _ e;rw[f]at b;cases b;simp only[MIt]at h4;subst h4;have g:(getObj c.blk).run P w=.ok (.mapIter none a ⟨seen⟩ last) w:=by simp[getObj,Sem.run,j]
 rw[k];exact .same d (v:=.tuple #[.bool false]) (by simp[Instr.next,g]) (by simp[VR,VRL])
theorem aA.fnd{b:Nat}:∀{es:List (AV×AV×Nat)}{rs:List MapEntry}{e:AV×AV×Nat},aA E es rs->es.find? (λe=>Nat.beq e.2.2 b)=some e->∃f,rs.find? (λe=>e.born == b)=some f/\VR E e.1 f.key/\VR E e.2.1 f.val
 |[],rs,e,h,he=>by simp at he
 | (k,x,c)::es,rs,e,h,he=>by
   obtain⟨f,t,rfl,g1,d,g3,g4⟩:=h;subst g3;simp only[af5]at he⊢;have a:(f.born == b)=Nat.beq f.born b:=by
    cases hh:Nat.beq f.born b with
    |true=>rw[ahJ hh];simp
    | false =>
      have:f.born≠b:=λe=>by rw[e,Nat.beq_refl]at hh;cases hh
      simp[*]
   rw[a];split at he
   .grind
   .rename_i hb;exact aA.fnd g4 he
theorem Ug{v:Value}{i j ck g a:Nat}{seen:List Nat}{es:List (AV×AV×Nat)}{e:AV×AV×Nat}(n:Rel w0 S0 E L w)(r:L[i]?=some (.miter (some j) g seen a))(F:L[j]?=some (.map es ck))(x:VR E (.ptr i 0) v)(k:mat es ck seen a=some e):bN P w0 S0 E L (.tup [e.1,e.2.1]) w (Instr.entry v):=by
 obtain⟨c,t,rfl⟩:=x;obtain⟨c',q,o,C,D,d,h4,rfl⟩:=n.blk i _ r;rw[t]at o;cases o;obtain⟨G,rs,g1,z,g3⟩:=n.blk j _ F;rw[h4]at g1;cases g1;have u:(getObj c.blk).run P w=.ok (.mapIter (some d.blk) g ⟨seen⟩ a) w:=by simp[getObj,Sem.run,C]
 have m:(getObj d.blk).run P w=.ok (.map rs ck) w:=by simp[getObj,Sem.run,z]
 unfold mat at k;split at k;rename_i b p;split at k;rename_i l;obtain⟨f,A,s,y⟩:=aA.fnd g3 k;have h:(⟨seen⟩:Array Nat).back?=some b:=by rw[List.getLast?_eq_getElem?]at p;simpa[Array.back?]using p
 have B:rs.find? (λe=>e.born == b)=some f:=by rw[<- A];simp
 rw[D];refine .same n (v:=.tuple #[f.key,f.val]) ?_ (by simp only[VR,VRL];exact⟨[f.key,f.val],rfl,f.key,[f.val],rfl,s,f.val,[],rfl,y,rfl⟩);simp[Instr.entry,u,m,h,l,B];simp_all;simp_all
theorem aA.del:∀{es:List (AV×AV×Nat)}{rs:List MapEntry}{j:Nat},aA E es rs->aA E (es.eraseIdx j) (rs.eraseIdx j)
 |[],rs,j,h=>by simp only[aA]at h;subst h;simp[aA]
 |(k,x,b)::es,rs,0,h=>by obtain⟨f,t,rfl,_,_,_,g4⟩:=h;simpa using g4
 |(k,x,b)::es,rs,j+1,h=>by obtain⟨f,t,rfl,g1,a,g3,g4⟩:=h;exact⟨f,t.eraseIdx j,ah4,g1,a,g3,aA.del g4⟩
theorem XZ{t x K t' ty:TypeId}{kd:lG}{k:AV}{u v:Value}{i ck:Nat}{cs:Array Bool}{es:List (AV×AV×Nat)}{r:Option (Nat×AV)}(I:Rel w0 S0 E L w)(hd:P.underlying t=some (.map x K))(m:fH P x=some kd)(B:L[i]?=some (.map es ck))(J:VR E (.lmap i) u)(H:aU kd k=true)(C:VR E k v)(M:bH k es 0=some r):∃w',(builtin .delete ⟨[t,t']⟩ ty cs ⟨[u,v]⟩).run P w=.ok (.value (.tuple #[])) w'/\Rel w0 S0 E (L.set i (match r with|some (j,_)=>.map (es.eraseIdx j) ck|none=>.map es ck)) w':=by
 obtain⟨c,rs,F,rfl,n,g⟩:=Pj I B J;have s:∀e,(Instr.checkKey e 10000 x v).run P w=.ok () w:=λe=>mC m H C e
 have G:(getObj c.blk).run P w=.ok (.map rs ck) w:=by simp[getObj,Sem.run,n]
 have D:=yJ m H C g M w;have A:c.blk<w.heap.size:=(afJ.1 n).1;have l:∀o,(setObj c.blk o).run P w=.ok () {w with heap:=w.heap.setIfInBounds c.blk o}:=λo=>by simp[setObj,Sem.run,n]
 have turn:∀d a f,aA E f (d:Array MapEntry).toList->Rel w0 S0 E (L.set i (.map f a)) {w with heap:=w.heap.setIfInBounds c.blk (.map d a)}:=λd a f y =>
  I.turn (w':={w with heap:=w.heap.setIfInBounds c.blk (.map d a)}) (k':=.map f a) B rfl F ah4 (λb n=>by simp[agV,Ne.symm n]) rfl rfl rfl
   ⟨c,d,F,by simp[A],y⟩ (λ_ _ e=>by cases e)
 cases r with
 | none =>
   have h:(Instr.findKey x v rs.toList).run P w=.ok none w:=D;refine⟨_,?_,turn rs ck es g⟩;simp[builtin,Builtin.delete_,run_underlying hd,G,s,h,l]
 | some p =>
   obtain⟨j,z⟩:=p;obtain⟨e,q,b,h,O,g3,g4,Q,N⟩:=D;refine⟨_,?_,turn (rs.eraseIdxIfInBounds j) ck (es.eraseIdx j) (by simpa using aA.del g)⟩;simp[builtin,Builtin.delete_,run_underlying hd,G,s,h,l]
theorem VK{t b h t' ty:TypeId}{kd:lG}{k:AV}{u v:Value}{cs:Array Bool}(i:Rel w0 S0 E L w)(hd:P.underlying t=some (.map b h))(c:fH P b=some kd)(d:VR E .nilmap u)(g:aU kd k=true)(f:VR E k v):
  (builtin .delete ⟨[t,t']⟩ ty cs ⟨[u,v]⟩).run P w=.ok (.value (.tuple #[])) w:=by
 simp only[VR]at d;subst d;have a:∀e,(Instr.checkKey e 10000 b v).run P w=.ok () w:=λe=>mC c g f e
 simp[builtin,Builtin.delete_,run_underlying hd,a]
theorem abk{own:Nat}{ts:List TypeId}{xs:List Operand}{p:List Opd}{ty:TypeId}{cs:Array Bool}{u:LOp}{c:Prop}{av:AV}{L':List Blk}(n:Rel w0 S0 E L w)(f:TR E T a)(D:nS xs=some p)(d:cw P own .delete ts p=some u)(b:ak T L u=some (c,av,L')):dE P w0 S0 E L' av w (builtin .delete ⟨ts⟩ ty cs ⟨xs.map a.eval⟩):=by
 unfold cw at d;split at d<;>try (rename_i C;cases C)
 rename_i t t' m k _;obtain⟨x,y,rfl,q,s⟩:=UE D;split at d<;>try cases d
 rename_i B F hd;rcases h4:fH P B with _|kd<;>simp[h4]at d;subst d;simp only[ak]at b;split at b<;>try cases b
 rename_i z l o;split at b<;>cases b;rename_i h;exact .same n (v:=.tuple #[]) (VK n hd h4 (ah q l f) h (ah s o f)) (by simp[VR,VRL]);rename_i i z l o;split at b<;>try cases b
 rename_i es ck A;split at b<;>try cases b
 rename_i h;have go:=λr e=>XZ (P:=P) (t':=t') (ty:=ty) (cs:=cs) (r:=r) n hd h4 A (ah q l f) h (ah s o f) e
 split at b<;>cases b;rename_i j G e;obtain⟨w',g1,g⟩:=go _ e;exact⟨E,.tuple #[],w',.inl g1,.refl E,by simp[VR,VRL],g⟩;rename_i e;obtain⟨w',g1,g⟩:=go _ e;exact⟨E,.tuple #[],w',.inl g1,.refl E,by simp[VR,VRL],g⟩;simp_all
end
section
variable {P:Program}{w0:World}{S0:SB}{E:Env}{L:List Blk}{w:World}{T:Tm}{a:Act}
def LOp.isCall:LOp->Bool
 |.call _ _|.callv _ _=>true
 |_=>false
set_option maxHeartbeats 1000000 in
theorem SG{own:Nat}{o:Oper}{lo:LOp}{c:Prop}{av:AV}{L':List Blk}(hR:Rel w0 S0 E L w)(hT:TR E T a)(hl:kA P own o.op=some lo)(hnc:lo.isCall=false)(he:ak T L lo=some (c,av,L'))(hc:c):
  dE P w0 S0 E L' av w (execOp a.eval o):=by
 obtain⟨dst,op,ty,pos,after,guard⟩:=o;cases op<;>simp only[kA]at hl<;>try cases hl
 case move x =>
  show dE P w0 S0 E L' av w (pure (.value (a.eval x)));rcases h1:aZ x with _|y<;>simp[h1]at hl;subst hl;simp only[ak]at he;rcases h2:evX T y with _|u<;>simp only[h2,afx,afi,reduceCtorEq,aeZ,afb]at he;obtain⟨rfl,rfl,rfl⟩:=he;exact .same hR rfl (ah h1 h2 hT)
 case assign x =>
  show dE P w0 S0 E L' av w (pure (.value (a.eval x)));rcases h1:aZ x with _|y<;>simp[h1]at hl;subst hl;simp only[ak]at he;rcases h2:evX T y with _|u<;>simp only[h2,afx,afi,reduceCtorEq,aeZ,afb]at he;obtain⟨rfl,rfl,rfl⟩:=he;exact .same hR rfl (ah h1 h2 hT)
 case pick x y z =>
  show dE P w0 S0 E L' av w (do pure (.value (if <- asBool (a.eval x)then a.eval y else a.eval z)));split at hl<;>try cases hl
  rename_i x' y' z' h1 h2 h3;simp only[ak]at he;split at he<;>try cases he
  all_goals
   rename_i h4;have hx:=ah h1 h4 hT;simp only[VR]at hx
  .rcases h5:evX T y' with _|u<;>simp only[h5,afx,afi,reduceCtorEq,aeZ,afb]at he;obtain⟨rfl,rfl,rfl⟩:=he;exact .same hR (by simp[hx,asBool]) (ah h2 h5 hT)
  .rcases h5:evX T z' with _|u<;>simp only[h5,afx,afi,reduceCtorEq,aeZ,afb]at he;obtain⟨rfl,rfl,rfl⟩:=he;exact .same hR (by simp[hx,asBool]) (ah h3 h5 hT)
 case alloc t =>
  show dE P w0 S0 E L' av w (do pure (.value (<- Instr.alloc t true (.tuple #[]))));rcases h1:zOf P t with _|z<;>simp[h1]at hl;subst hl;simp only[ak,aeZ,afb]at he;obtain⟨rfl,rfl,rfl⟩:=he;exact(VN hR h1).done
 case box t x =>
  show dE P w0 S0 E L' av w (do pure (.value (<- Instr.box t (a.eval x))));rcases h1:aZ x with _|y<;>simp[h1]at hl;subst hl;simp only[ak]at he;rcases h2:evX T y with _|u
  .simp[h2]at he
  .simp only[h2,agw]at he;rcases h3:u.cells? with _|l<;>simp only[h3,reduceCtorEq,aeZ,afb]at he;obtain⟨rfl,rfl,rfl⟩:=he;exact(OE hR (qN h3 (ah h1 h2 hT))).done
 case build t ps =>
  show dE P w0 S0 E L' av w (do pure (.value (<- Instr.build t (ps.map λ(i,x)=>(i,a.eval x)))));have hps:(ps.map λ(i,x)=>(i,a.eval x))=⟨ps.toList.map λ(i,x)=>(i,a.eval x)⟩:=(by apply Array.ext';simp);rw[hps];split at hl<;>try cases hl
  rename_i d z hd hz;split at hl<;>try cases hl
  .rename_i fs;split at hl<;>try cases hl
   rename_i hk;rcases hm:fT P (.struct fs) ps.toList with _|m<;>simp only[hm,afx,afi,reduceCtorEq,aeZ]at hl;subst hl;simp only[ak]at he;rcases hf:lv T z m with _|l<;>simp only[hf,afx,afi,reduceCtorEq,aeZ,afb]at he;obtain⟨rfl,rfl,rfl⟩:=he;exact(Uh hT hR hd hz hk hm hf).done
  .rename_i n e;split at hl<;>try cases hl
   rename_i hs;rcases hm:fT P (.array n e) ps.toList with _|m<;>simp only[hm,afx,afi,reduceCtorEq,aeZ]at hl;subst hl;simp only[ak]at he;rcases hf:lv T z m with _|l<;>simp only[hf,afx,afi,reduceCtorEq,aeZ,afb]at he;obtain⟨rfl,rfl,rfl⟩:=he;exact(Ui hT hR hd hz hm hs hf).done
 case buildSlice t n ps =>
  show dE P w0 S0 E L' av w (do pure (.value (<- Instr.buildSlice t n (ps.map λ(i,x)=>(i,a.eval x)))));have hps:(ps.map λ(i,x)=>(i,a.eval x))=⟨ps.toList.map λ(i,x)=>(i,a.eval x)⟩:=(by apply Array.ext';simp);rw[hps];split at hl<;>try cases hl
  rename_i e hd;split at hl<;>try cases hl
  rename_i s z m hs hz hm;split at hl<;>try cases hl
  rename_i hk;simp only[ak]at he;rcases hf:lv T (di z n) m with _|l<;>simp only[hf,reduceCtorEq]at he;have:=Uj (own:=own == 2) hT hR hd hs hz hk.1 hk.2 hm hf;split at he<;>simp only[aeZ,afb]at he<;>obtain⟨rfl,rfl,rfl⟩:=he
  .rename_i ho;rw[if_pos ho]at this;exact this.done
  .rename_i ho;rw[if_neg ho]at this;exact this.done
 case load t x =>
  split at hl<;>try cases hl
  rename_i g s y h1 h2 h3;exact YX hR hT h1 h2 h3 he hc
 case store t x y =>
  split at hl<;>try cases hl
  rename_i s p q h1 h2 h3;exact Xl hR hT h1 h2 h3 he hc
 case nilCheck x =>
  rcases h1:aZ x with _|y<;>simp[h1]at hl;subst hl;simp only[ak]at he;split at he<;>try cases he
  all_goals
   rename_i h2;have hx:=kB hR h1 h2 hT
  .have hx':=hx;obtain⟨p,hp⟩:=hx'.ptr_shape;exact .same hR (by simp[execOp,hp]) hx
  .have hx':=hx;obtain⟨p,hp⟩:=hx'.iptr_shape;exact .same hR (by simp[execOp,hp]) hx
  .have hx':=hx;obtain⟨p,hp⟩:=hx'.iface_shape;exact .same hR (by simp[execOp,hp]) hx
  .have hx':=hx;obtain⟨p,hp⟩:=hx'.func_shape;exact .same hR (by simp[execOp,hp]) hx
 case binOp op t x y u=>exact abm (u:=u) hR hT hl he hc
 case unOp op t x =>
  show dE P w0 S0 E L' av w (do pure (.value (<- Op.unary op (a.eval x))));rcases h1:aZ x with _|y<;>simp[h1]at hl;subst hl;simp only[ak]at he;split at he<;>try cases he
  rename_i u h2;rcases h3:un op u with _|r<;>simp only[h3,afx,afi,reduceCtorEq,aeZ,afb]at he;obtain⟨rfl,rfl,rfl⟩:=he;exact(abW hR (ah h1 h2 hT) h3).done
 case convert s d x =>
  rcases h1:aZ x with _|y
  .simp[h1]at hl
  .simp only[h1,agw]at hl;exact YY hR hT h1 hl he hc
 case makeInterface t x =>
  show dE P w0 S0 E L' av w (do pure (.value (<- Instr.makeInterface t (a.eval x))));split at hl<;>try cases hl
  rename_i d hni hd;rcases h1:aZ x with _|y<;>simp only[h1,afx,afi,reduceCtorEq,aeZ]at hl;subst hl;simp only[ak]at he;rcases h2:evX T y with _|u<;>simp only[h2,afx,afi,reduceCtorEq,aeZ,afb]at he;obtain⟨rfl,rfl,rfl⟩:=he;refine .same hR (v:=.iface t (a.eval x)) ?_ ⟨_,rfl,ah h1 h2 hT⟩;simp only[Instr.makeInterface,ae8,run_underlying hd,ae9];cases d<;>first|rfl|exact absurd hd (hni _)
 case makeFunc fn first caps =>
  show dE P w0 S0 E L' av w (do pure (.value (<- Instr.makeFunc fn (first.map a.eval) (caps.map a.eval))));split at hl<;>try cases hl
  rename_i f;split at hl<;>try cases hl
  rename_i hfirst;rcases h1:nS caps.toList with _|ys<;>simp only[h1,afx,afi,reduceCtorEq,aeZ]at hl;subst hl;simp only[ak]at he;rcases h2:iR T ys with _|l<;>simp only[h2,afx,afi,reduceCtorEq,aeZ,afb]at he;obtain⟨rfl,rfl,rfl⟩:=he;have hf:first=#[]:=by simpa using hfirst
  subst hf;refine .same hR (v:=.func (.func f) #[] (caps.map a.eval)) (by simp[Instr.makeFunc]) ⟨caps.toList.map a.eval,?_,sO h1 h2 hT⟩;congr 1;apply Array.ext';simp
 case makeSlice t l c' =>
  show dE P w0 S0 E L' av w (do pure (.value (<- Instr.makeSlice t (a.eval l) (a.eval c'))));split at hl<;>try cases hl
  rename_i e hd;split at hl<;>try cases hl
  rename_i s b z l' c'' hs hb hz h1 h2;split at hl<;>try cases hl
  rename_i hk;simp only[ak]at he;split at he<;>try cases he
  rename_i k1 n k2 m h3 h4;have e1:=ah h1 h3 hT;have e2:=ah h2 h4 hT;simp only[VR]at e1 e2;rw[e1,e2];exact(Sy hR hd hs hb hz hk.1 hc.1 hc.2.1 hc.2.2.1 hc.2.2.2).done
 case slice t x lo' hi mx =>
  split at hl<;>try cases hl
  .rename_i x' lo'' hi' hd h1 h2 h3 h4;have hmx:mx=none:=by
    cases mx with
    |none=>rfl
    |some m=>simp[vT]at h4
   subst hmx;show dE P w0 S0 E L' av w (do pure (.value (<- Instr.sliceAt t (a.eval x) (lo'.map a.eval) (hi.map a.eval) none)));simp only[ak]at he;split at he<;>try cases he
   rename_i s r1 r2 h5 h6 h7;exact(ZT hR hd (ah h1 h5 hT) (dh hT h2 h6) (dh hT h3 h7) hc.1 hc.2.1 hc.2.2).done
  .rename_i e x' lo'' hi' mx' hd h1 h2 h3 h4;rcases hs:bJ P e with _|s<;>simp only[hs,afx,afi,reduceCtorEq,aeZ]at hl;subst hl;exact abh hR hT hd hs h1 h2 h3 h4 he hc
  .rename_i n e x' lo'' hi' hd h1 h2 h3 h4;rcases hs:bJ P e with _|s<;>simp only[hs,afx,afi,reduceCtorEq,aeZ]at hl;subst hl;have hmx:mx=none:=by
    cases mx with
    |none=>rfl
    |some m=>simp[vT]at h4
   subst hmx;exact abi hR hT hd hs h1 h2 h3 he hc
 case fieldAddr t x f =>
  split at hl<;>try cases hl
  rename_i fs x' hd h1;split at hl<;>try cases hl
  rename_i fd hf;split at hl<;>try cases hl
  rename_i hz;exact Xo hR hT hd hf hz h1 he
 case field t x f =>
  split at hl<;>try cases hl
  rename_i fs x' hd h1;split at hl<;>try cases hl
  rename_i fd hf;split at hl<;>try cases hl
  rename_i g s hg hs;exact Xn hR hT hd hf hg hs h1 he hc
 case indexAddr t x i =>
  split at hl<;>try cases hl
  .rename_i e x' i' hd h1 h2;rcases hs:bJ P e with _|s<;>simp only[hs,afx,afi,reduceCtorEq,aeZ]at hl;subst hl;exact Xm hR hT hd hs h1 h2 he hc
  .rename_i n e x' i' hd h1 h2;rcases hs:bJ P e with _|s<;>simp only[hs,afx,afi,reduceCtorEq,aeZ]at hl;subst hl;exact U5 hR hT hd hs h1 h2 he hc
 case index t x i =>
  show dE P w0 S0 E L' av w (do pure (.value (<- Instr.index t (a.eval x) (a.eval i))));split at hl<;>try cases hl
  rename_i x' i' hd h1 h2;simp only[ak]at he;split at he<;>try cases he
  rename_i s k n h3 h4;have e2:=ah h2 h4 hT;simp only[VR]at e2;rw[e2];exact(X0 hR hd (ah h1 h3 hT) hc.1 hc.2).done
 case extract x i =>
  show dE P w0 S0 E L' av w (do pure (.value (<- Instr.extract (a.eval x) i)));rcases h1:aZ x with _|y<;>simp[h1]at hl;subst hl;simp only[ak]at he;split at he<;>try cases he
  rename_i l h2;rcases h3:l[i]? with _|u<;>simp only[h3,afx,afi,reduceCtorEq,aeZ,afb]at he;obtain⟨rfl,rfl,rfl⟩:=he;exact(Sz hR (ah h1 h2 hT) h3).done
 case makeMap t r =>
  show dE P w0 S0 E L' av w (do pure (.value (<- Instr.makeMap t (r.map a.eval))));cases r with
  |some x=>simp at hl
  | none =>
    simp only at hl;split at hl<;>try cases hl
    rename_i kt et hd;simp only[ak,aeZ,afb]at he;obtain⟨rfl,rfl,rfl⟩:=he;exact(VI hR hd).done
 case lookup t m k ok =>
  show dE P w0 S0 E L' av w (do pure (.value (<- Instr.lookup t (a.eval m) (a.eval k) ok)));split at hl<;>try cases hl
  rename_i kt et m' k' hd h1 h2;split at hl<;>try cases hl
  rename_i kd z h3 h4;simp only[ak]at he;split at he<;>try cases he
  .rename_i kv h5 h6;split at he<;>cases he;rename_i hf;exact(VJ ok hR hd h3 h4 (ah h1 h5 hT) hf (ah h2 h6 hT)).done
  .rename_i i kv h5 h6;split at he<;>try cases he
   rename_i es ck h7;split at he<;>try cases he
   rename_i hf;have go:=λr av hm hav=>(XY (P:=P) (r:=r) (av:=av) ok hR hd h3 h4 h7 (ah h1 h5 hT) hf (ah h2 h6 hT) hm hav).done
   split at he<;>cases he
   .rename_i j v hm;exact go _ _ hm rfl
   .rename_i hm;exact go _ _ hm rfl
 case mapUpdate t m k v =>
  show dE P w0 S0 E L' av w (do Instr.mapUpdate t (a.eval m) (a.eval k) (a.eval v);pure .skip);split at hl<;>try cases hl
  rename_i kt et m' k' v' hd h1 h2 h3;rcases h4:fH P kt with _|kd<;>simp[h4]at hl;subst hl;simp only[ak]at he;split at he<;>try cases he
  rename_i i kv x h5 h6 h7;split at he<;>try cases he
  rename_i es ck h8;split at he<;>try cases he
  rename_i hf;have go:=λr hm=>XX (P:=P) (r:=r) hR hd h4 h8 (ah h1 h5 hT) hf (ah h2 h6 hT) (ah h3 h7 hT) hm
  split at he<;>cases he
  .rename_i j y hm;obtain⟨w',g1,g2⟩:=go _ hm;exact⟨E,undef,w',.inr ⟨by simp[g1],rfl⟩,.refl E,by simp[VR],g2⟩
  .rename_i hm;obtain⟨w',g1,g2⟩:=go _ hm;exact⟨E,undef,w',.inr ⟨by simp[g1],rfl⟩,.refl E,by simp[VR],g2⟩
 case range t x =>
  show dE P w0 S0 E L' av w (do pure (.value (<- Instr.range t (a.eval x))));split at hl<;>try cases hl
  .rename_i hd;rcases h1:aZ x with _|y<;>simp[h1]at hl;subst hl;simp only[ak]at he;split at he<;>try cases he
   rename_i s h2;exact(Ud hR hd (ah h1 h2 hT)).done
  .rename_i kt et hd;rcases h1:aZ x with _|y<;>simp[h1]at hl;subst hl;simp only[ak]at he;split at he<;>try cases he
   .rename_i h2;exact(Sx hR hd (ah h1 h2 hT)).done
   .rename_i i h2;split at he<;>cases he;rename_i es ck h3;exact(Ue hR hd h3 (ah h1 h2 hT)).done
 case entry x =>
  show dE P w0 S0 E L' av w (do pure (.value (<- Instr.entry (a.eval x))));rcases h1:aZ x with _|y<;>simp[h1]at hl;subst hl;simp only[ak]at he;split at he<;>try cases he
  rename_i i h2;split at he<;>try cases he
  rename_i j since seen st h3;split at he<;>try cases he
  rename_i es ck h4;split at he<;>cases he;rename_i e h5;exact(Ug hR h3 h4 (ah h1 h2 hT) h5).done
 case next x isS =>
  show dE P w0 S0 E L' av w (do pure (.value (<- Instr.next (a.eval x) isS ty)));by_cases hS:isS=true
  case neg =>
   rw[if_neg hS]at hl;have hS':isS=false:=(by simpa using hS);subst hS';rcases h1:aZ x with _|y<;>simp[h1]at hl;subst hl;simp only[ak]at he;split at he<;>try cases he
   rename_i i h2;split at he<;>try cases he
   .rename_i h3;exact(Uf hR h3 (ah h1 h2 hT)).done
   .rename_i j since seen last h3;split at he<;>try cases he
    rename_i es ck h4;split at he<;>cases he;rename_i r h5;exact(VH hR h3 h4 (ah h1 h2 hT) h5).done
  rw[if_pos hS]at hl;subst hS;rcases h1:aZ x with _|y<;>simp[h1]at hl;subst hl;simp only[ak]at he;split at he<;>try cases he
  rename_i i h2;split at he<;>try cases he
  rename_i s p h3;have key:=VG (P:=P) (t:=ty) hR h3 (ah h1 h2 hT);split at he<;>cases he
  .rename_i hp;rw[if_pos hp,if_pos hp]at key;exact key.done
  .rename_i hp;rw[if_neg hp,if_neg hp]at key;exact key.done
 case call c' =>
  obtain⟨callee,args,ats⟩:=c';split at hl<;>try cases hl
  rename_i xs hx;split at hl<;>try cases hl
  .simp[LOp.isCall]at hnc
  .rename_i x _ _;rcases h1:aZ x with _|y<;>simp only[h1,afx,afi,reduceCtorEq,aeZ]at hl;subst hl;simp[LOp.isCall]at hnc
  .rename_i b hb;simp only at hb hx hl;subst hb;have:execOp a.eval {dst,op:=.call {callee:=.builtin b,args,argTypes:=ats},type:=ty,pos,after,guard}=builtin b ⟨ats.toList⟩ ty (args.map λ|.const _=>true|_=>false) ⟨args.toList.map a.eval⟩:=by simp only[execOp,resolve,pure_bind,invoke];congr 1;apply Array.ext';simp
   rw[this];exact Tp hR hT hx hl he hc λe=>by subst e;exact abk hR hT hx hl he
end
structure aj where
 dst:Option Nat
 op:LOp
 guard:Option (Nat×Bool)
 deriving Inhabited
def bC(dst:Option Nat)(v:AV)(T:Tm):Tm :=
 match dst with
 |some d=>(d,v)::T
 |none=>T
def fB(r:Option Nat):Fence:={fn:=λ_=>True,depth:=none,alive:=false,round:=r}
theorem QG{P:Program}{args:Array Value}{w:World}{R:Ending->World->Prop}(r:Option Nat)(n:Nat)(h:Calls P f args w R):CallsIn (fB r) n P f args w R:=by have a:CallsIn Fence.wide n P f args w R:=callsIn_wide.2 h;cases r<;>exact a
theorem Tu{P:Program}{n l:Nat}{tmps:Array Value}{ca cb:Code}{w:World}{R:Ending->World->Prop}(r:Option Nat)(h:RoundIn (fB none) n P l f tmps ca cb w R):RoundIn (fB r) n P l f tmps ca cb w R:=by cases r<;>exact h
def Rm(P:Program)(i:Nat)(args:List AV)(L:List Blk)(Q:AV->List Blk->Prop):Prop :=
 ∀(w0:World) (S0:SB) (E:Env) (w:World) (vs:List Value),Rel w0 S0 E L w->VRL E args vs->∀c,E.loc i=some c ->
  ∃fn tmps ca cb,(Instr.yield c.blk ⟨vs⟩).run P w=.ok (.round c.blk fn tmps ca cb) w/\RoundIn (fB none) 0 P c.blk fn tmps ca cb w λe w'=>∃E' v av L',e=.returned v/\E.le E'/\Q av L'/\VR E' av v/\Rel w0 S0 E' L' w'
theorem Rm.mono{P:Program}{L:List Blk}{Q f:AV->List Blk->Prop}(h:Rm P i args L Q)(g:∀av L',Q av L'->f av L'):Rm P i args L f:=by intro w0 S0 E w vs m n c l;obtain⟨fn,tmps,ca,cb,k,j⟩:=h w0 S0 E w vs m n c l;exact⟨fn,tmps,ca,cb,k,j.mono λe w' ⟨E',v,av,L',a,b,c,d⟩=>⟨E',v,av,L',a,b,g _ _ c,d⟩⟩
def ac(P:Program)(f:FuncId)(args:List AV)(L:List Blk)(Q:AV->List Blk->Prop):Prop :=
 ∀(w0:World) (S0:SB) (E:Env) (w:World) (vs:List Value),Rel w0 S0 E L w->VRL E args vs ->
  ((callFunc f ⟨vs⟩).run P w=.ok (.enter f ⟨vs⟩) w/\Calls P f ⟨vs⟩ w λe w'=>∃E' v av L',e=.returned v/\E.le E'/\Q av L'/\VR E' av v/\Rel w0 S0 E' L' w') \/
  (∃E' v av L' w',(callFunc f ⟨vs⟩).run P w=.ok (.value v) w'/\E.le E'/\Q av L'/\VR E' av v/\Rel w0 S0 E' L' w')
theorem ac.mono{P:Program}{L:List Blk}{Q j:AV->List Blk->Prop}(h:ac P f args L Q)(k:∀av L',Q av L'->j av L'):ac P f args L j:=by
 intro w0 S0 E w vs l m;rcases h w0 S0 E w vs l m with⟨i,g⟩|⟨E',v,av,L',w',i,g,n,h4⟩;exact .inl ⟨i,g.mono λe w' ⟨E',v,av,L',a,b,c,d⟩=>⟨E',v,av,L',a,b,k _ _ c,d⟩⟩
 grind
def Res(K:Tm->List Blk->Prop)(d:Option Nat)(T:Tm):Option (Prop×AV×List Blk)->Prop
 |some (c,av,L')=>c/\K (bC d av T) L'
 |none=>False
theorem aaC{T:Tm}{c:Prop}{av:AV}{L':List Blk}:Res K d T (some (c,av,L'))=(c/\K (bC d av T) L'):=rfl
def Kon(K:Tm->List Blk->Prop)(d:Option Nat)(T:Tm):AV->List Blk->Prop:=λav L'=>K (bC d av T) L'
def Cal(P:Program)(f:FuncId)(K:Tm->List Blk->Prop)(d:Option Nat)(T:Tm)(L:List Blk):Option (List AV)->Prop
 |some args=>ac P f args L (Kon K d T)
 |none=>False
theorem aaM{P:Program}{T:Tm}{L:List Blk}:Cal P f K d T L (some args)=ac P f args L (Kon K d T):=rfl
def Yy(P:Program)(K:Tm->List Blk->Prop)(d:Option Nat)(T:Tm)(L:List Blk):Option AV->Option (List AV)->Prop
 |some (.func g caps),some args=>ac P g (args++caps) L (Kon K d T)
 |some (.yld i),some args=>Rm P i args L (Kon K d T)
 |_,_=>False
theorem Q1{P:Program}{T:Tm}{L:List Blk}:Yy P K d T L (some (.yld i)) (some args)=Rm P i args L (Kon K d T):=rfl
theorem Yx{P:Program}{T:Tm}{L:List Blk}{g:FuncId}{caps:List AV}:Yy P K d T L (some (.func g caps)) (some args)=ac P g (args++caps) L (Kon K d T):=rfl
def AOp(P:Program)(o:aj)(K:Tm->List Blk->Prop)(T:Tm)(L:List Blk):Prop :=
 match o.op with
 |.call f xs=>Cal P f K o.dst T L (iR T xs)
 |.callv f xs=>Yy P K o.dst T L (evX T f) (iR T xs)
 |lo=>Res K o.dst T (ak T L lo)
def Grd(P:Program)(o:aj)(K:Tm->List Blk->Prop)(b:Bool)(T:Tm)(L:List Blk):Option AV->Prop
 |some (.bool x)=>if x=b then AOp P o K T L else K (bC o.dst (.tup []) T) L
 |some (.tup [])=>K (bC o.dst (.tup []) T) L
 |_=>False
theorem yT{P:Program}{o:aj}{x:Bool}{T:Tm}{L:List Blk}:Grd P o K b T L (some (.bool x))=if x=b then AOp P o K T L else K (bC o.dst (.tup []) T) L:=rfl
theorem S9{P:Program}{o:aj}{T:Tm}{L:List Blk}:Grd P o K b T L (some (.tup []))=K (bC o.dst (.tup []) T) L:=rfl
def mN(P:Program)(K:Tm->List Blk->Prop):List aj->Tm->List Blk->Prop
 |[],T,L=>K T L
 | o::rest,T,L=>match o.guard with
   |none=>AOp P o (mN P K rest) T L
   |some (t,b)=>Grd P o (mN P K rest) b T L (ar T t)
theorem aaR{P:Program}{T:Tm}{L:List Blk}:mN P K [] T L=K T L:=rfl
theorem Yz{P:Program}{op:LOp}{rest:List aj}{T:Tm}{L:List Blk}:mN P K (⟨d,op,none⟩::rest) T L=AOp P ⟨d,op,none⟩ (mN P K rest) T L:=rfl
theorem V8{P:Program}{op:LOp}{rest:List aj}{T:Tm}{L:List Blk}:mN P K (⟨d,op,some (t,b)⟩::rest) T L=Grd P ⟨d,op,some (t,b)⟩ (mN P K rest) b T L (ar T t):=rfl
def acQ(N:Nat):Option Nat->Bool
 |some d=>decide (d<N)
 |none=>true
def mR(P:Program)(N:Nat)(own:Nat->Nat)(ops:Array Oper)(i:Nat):Option aj :=
 match ops[i]? with
 |none=>none
 | some o=>match (kA P (own i) o.op).getD .bad with
   | lo =>
     if acQ N o.dst=true then
      match o.guard with
      |none=>some ⟨o.dst,lo,none⟩
      | some (j,b)=>match (ops[j]?).bind (·.dst) with
        |some t=>if t<N then some ⟨o.dst,lo,some (t,b)⟩else none
        |none=>none
     else none
def bt(P:Program)(N:Nat)(own:Nat->Nat)(ops:Array Oper):List Nat->Option (List aj)
 |[]=>some []
 | i::l=>match mR P N own ops i,bt P N own ops l with
   |some o,some m=>some (o::m)
   |_,_=>none
section
variable {P:Program}{w0:World}{S0:SB}{N:Nat}
theorem PJ(a:Act)(d:Option Nat)(v:Value):(a.put d v).tmps.size=a.tmps.size:=by cases d<;>simp[Act.put]
theorem Jw(a:Act)(d:Option Nat)(v:Value):(a.put d v).defers=a.defers:=by cases d<;>simp[Act.put]
theorem TR.putT{E:Env}{T:Tm}{a:Act}{d:Option Nat}{x:AV}{v:Value}(r:TR E T a)(hd:∀k,d=some k->k<a.tmps.size)(b:VR E x v):TR E (bC d x T) (a.put d v):=by
 cases d with
 |none=>exact r
 |some k=>exact r.put (hd k rfl) b
def mkD(D:Nat):Deferred:={target:=.collected D,args:=#[]}
def UO(w0:World)(S0:SB)(ds:List Deferred):Prop:=S0.B<=w0.heap.size/\ds.Nodup/\∀d∈ds,∃D,d=mkD D/\S0.B<=D/\D<w0.heap.size/\¬S0 D/\w0.heap[D]?=some (.deferred (some []))
theorem UO.nil{w0:World}{S0:SB}(h:S0.B<=w0.heap.size):UO w0 S0 []:=⟨h,agX,λ_ h=>by cases h⟩
def St(w0:World)(S0:SB)(N:Nat)(E:Env)(T:Tm)(L:List Blk)(a:Act)(w:World):Prop :=
 Rel w0 S0 E L w/\TR E T a/\a.tmps.size=N/\UO w0 S0 a.defers
theorem Vq{own:Nat}{s d:TypeId}{x:Opd}{a:LOp}(h:zb P own s d x=some a):a.isCall=false:=by
 unfold zb at h
 repeat' split at h
 all_goals (first|(cases h;rfl)|cases h)
theorem XL{op:BinOp}{t:TypeId}{x y:Operand}{a:LOp}(h:Jz P op t x y=some a):a.isCall=false:=by
 unfold Jz at h
 repeat' split at h
 all_goals (first|(cases h;rfl)|cases h)
theorem Q7{own:Nat}{b:Builtin}{ts:List TypeId}{xs:List Opd}{a:LOp}(h:cw P own b ts xs=some a):a.isCall=false:=by
 unfold cw at h
 repeat' split at h
 all_goals (first|(cases h;rfl)|cases h|(simp only[afr]at h;obtain⟨_,_,rfl⟩:=h;rfl))
theorem ZB{own:Nat}{op:Op}{lo:LOp}(h:kA P own op=some lo)(hc:∀c,op≠.call c):lo.isCall=false:=by
 cases op
 case makeMap t r =>
  cases r with
  |some x=>simp[kA]at h
  | none =>
    simp only[kA]at h;split at h<;>cases h;rfl
 all_goals (simp only[kA]at h;try (cases h;done))
 case call c=>exact absurd rfl (hc c)
 case binOp=>exact XL h
 case convert x=>simp only[agM]at h;obtain⟨_,_,h⟩:=h;exact Vq h
 all_goals
  repeat' split at h
  all_goals (first|(cases h;rfl)|cases h|(simp only[afr]at h;obtain⟨_,_,rfl⟩:=h;rfl))
theorem Hb{own:Nat}{o:Oper}{lo:LOp}{gd:Option (Nat×Bool)}(hl':(kA P own o.op).getD .bad=lo)(hd:∀d,o.dst=some d->d<N){T:Tm}{L:List Blk}{E:Env}{a:Act}{w:World}{K:Tm->List Blk->Prop}(hst:St w0 S0 N E T L a w)(h:AOp P ⟨o.dst,lo,gd⟩ K T L){next:Act->World->Prop}{Q:Exit->Act->World->Prop}(hK:∀E' T' L' a' w',E.le E'->K T' L'->St w0 S0 N E' T' L' a' w'->next a' w'){r:Option Nat}:o.wpIn (fB r) 0 P a w next Q:=by
 have hl:kA P own o.op=some lo:=by rcases hq:kA P own o.op with _|x;rw[hq]at hl';simp only[Option.getD_none]at hl';subst hl';exact h.elim;simp_all
 obtain⟨hR,hT,hN,hdf⟩:=hst;have hnd:∀c,o.op≠.defer c:=λc e=>by rw[e]at hl;simp[kA]at hl
 refine⟨λ_ _=>trivial,?_⟩;rw[Oper.semAt_plain _ _ _ hnd];have value:∀{E':Env}{v:Value}{av:AV}{L':List Blk}{w':World},E.le E'->VR E' av v->Rel w0 S0 E' L' w'->K (bC o.dst av T) L'->next (a.put o.dst v) w':=λ{E' v av L' w'} h1 h2 h3 h4 =>
  hK E' _ _ _ _ h1 h4 ⟨h3,(hT.mono h1).putT (λk hk=>by rw[hN];exact hd k hk) h2,by rw[PJ];exact hN,by rw[Jw];exact hdf⟩
 have called:∀{f:FuncId}{vs:List Value}{args:List AV},((execOp a.eval o).run P w=(callFunc f ⟨vs⟩).run P w)->VRL E args vs->ac P f args L (Kon K o.dst T)->o.uponIn (fB r) 0 P a next Q ((execOp a.eval o).run P w):=λ{f vs args} hrun hv hc=>by rw[hrun];rcases hc w0 S0 E w vs hR hv with⟨h1,h2⟩|⟨E',v,av,L',w',h1,h2,h3,h4,h5⟩;rw[h1,Oper.uponIn_enter];refine⟨λh=>(by cases h),(QG r _ h2).mono λe w' ⟨E',v,av,L',e1,h3,h4,h5,h6⟩=>?_⟩;subst e1;exact value h3 h5 h6 h4;rw[h1,Oper.uponIn_value];exact value h2 h4 h5 h3
 by_cases hcall:lo.isCall=true
 .obtain⟨d0,op,ty,pos,after,guard⟩:=o;by_cases hop:∃c,op=.call c
  .obtain⟨⟨callee,args,ats⟩,rfl⟩:=hop;simp only[kA]at hl;split at hl<;>try cases hl
   rename_i xs hx;split at hl<;>try cases hl
   rename_i f;simp only[AOp]at h;rcases hev:iR T xs with _|l;rw[hev]at h;exact h.elim;rw[hev]at h;refine called (vs:=args.toList.map a.eval) ?_ (sO hx hev hT) h;rw[execOp_call_go];congr 2
   grind
   .rename_i x _;rcases h1:aZ x with _|y<;>simp only[h1,afx,afi,reduceCtorEq,aeZ]at hl;subst hl;simp only[AOp]at h;rcases hev:evX T y with _|u;rw[hev]at h;exact h.elim;rcases hevs:iR T xs with _|l;rw[hev,hevs]at h;cases u<;>exact h.elim;rw[hev,hevs]at h;cases u<;>simp only[Yy]at h
    case yld i =>
     have hx':=ah h1 hev hT;simp only[VR]at hx';obtain⟨c,hc,hfv⟩:=hx';have hrun:(execOp a.eval {dst:=d0,op:=.call {callee:=.value x,args,argTypes:=ats},type:=ty,pos,after,guard}).run P w=(Instr.yield c.blk (args.map a.eval)).run P w:=by simp only[execOp,resolve,hfv,Deferred.ofValue,pure_bind,invoke];simp
     have hargs:(⟨args.toList.map a.eval⟩:Array Value)=args.map a.eval:=(by apply Array.ext';simp);obtain⟨fn,tmps,ca,cb,k1,k2⟩:=h w0 S0 E w _ hR (sO hx hevs hT) c hc;rw[hrun,<- hargs,k1,Oper.uponIn_round];refine⟨λh=>(by cases h),(Tu r k2).mono λe w' ⟨E',v,av,L',e1,h3,h4,h5,h6⟩=>?_⟩;subst e1;exact value h3 h5 h6 h4
    rename_i g caps;have hx':=ah h1 hev hT;simp only[VR]at hx';obtain⟨cs,hfv,hcs⟩:=hx';refine called (vs:=args.toList.map a.eval++cs) ?_ ((sO hx hevs hT).append hcs) h;have:execOp a.eval {dst:=d0,op:=.call {callee:=.value x,args,argTypes:=ats},type:=ty,pos,after,guard}=callFunc g (args.map a.eval++⟨cs⟩):=by simp only[execOp,resolve,hfv,Deferred.ofValue,pure_bind,invoke];simp
    rw[this];congr 2;simp
   rw[Q7 hl]at hcall;cases hcall
  rw[ZB hl (λc e=>hop ⟨c,e⟩)]at hcall;cases hcall
 have hcall:lo.isCall=false:=by simpa using hcall
 have h':Res K o.dst T (ak T L lo):=by cases lo<;>simp only[LOp.isCall,agC]at hcall<;>exact h
 rcases he:ak T L lo with _|⟨c,av,L'⟩;rw[he]at h';exact h'.elim;rw[he]at h';obtain⟨E',v,w',h1,h2,h3,h4⟩:=SG hR hT hl hcall he h'.1;rcases h1 with h1|⟨h1,rfl⟩;rw[h1,Oper.uponIn_value];exact value h2 h3 h4 h'.2;rw[h1,Oper.uponIn_skip];exact value h2 h3 h4 h'.2
end
section
variable {P:Program}{w0:World}{S0:SB}{N:Nat}
theorem kM{E:Env}{T:Tm}{a:Act}{ops:Array Oper}{j t:Nat}(c:TR E T a)(f:(ops[j]?).bind (·.dst)=some t)(e:t<a.tmps.size):
  (∀x,ar T t=some (.bool x)->yielded ops a.tmps j=some x)/\(ar T t=some (.tup [])->yielded ops a.tmps j=none):=by
 refine⟨λx b=>?_,λb=>?_⟩;have:=c t _ b;simp only[VR]at this;unfold yielded;simp_all;have:=c t _ b;obtain⟨vs,g,d⟩:=this;unfold yielded;simp_all
theorem iO{own:Nat->Nat}{ops:Array Oper}{i:Nat}{a:aj}(h:mR P N own ops i=some a):
  ∃o,ops[i]?=some o/\(kA P (own i) o.op).getD .bad=a.op/\o.dst=a.dst/\(∀d,o.dst=some d->d<N) /\
   ((o.guard=none/\a.guard=none)\/∃j b t,o.guard=some (j,b)/\(ops[j]?).bind (·.dst)=some t/\t<N/\a.guard=some (t,b)):=by
 unfold mR at h;split at h;cases h;rename_i o f;split at h;rename_i hd;have c:∀d,o.dst=some d->d<N:=λd e=>by rw[e]at hd;simpa[acQ]using hd
 grind
 cases h
theorem Ka{E:Env}{T:Tm}{L:List Blk}{a:Act}{w:World}(h:St w0 S0 N E T L a w){d:Option Nat}(hd:∀k,d=some k->k<N):St w0 S0 N E (bC d (.tup []) T) L (a.put d undef) w :=
 ⟨h.1,h.2.1.putT (λk b=>by rw[h.2.2.1];exact hd k b) ⟨[],rfl,rfl⟩,by rw[PJ];exact h.2.2.1,by rw[Jw];exact h.2.2.2⟩
theorem J1{own:Nat->Nat}{ops:Array Oper}{K:Tm->List Blk->Prop}{Q:Exit->Act->World->Prop}{r:Option Nat}:∀(is:List Nat) (d:List aj),bt P N own ops is=some d ->
  ∀{T:Tm}{L:List Blk}{E:Env}{a:Act}{w:World},St w0 S0 N E T L a w->mN P K d T L->(∀E' T' L' n w',E.le E'->K T' L'->St w0 S0 N E' T' L' n w'->Q .normal n w')->wpOpsIn (fB r) 0 P ops Q is a w
 |[],d,hl,T,L,E,a,w,hst,h,hK=>by simp[bt]at hl;subst hl;exact hK E T L a w (.refl E) h hst
 | i::is,d,hl,T,L,E,a,w,hst,h,hK=>by
   simp only[bt]at hl;split at hl<;>try cases hl
   rename_i R c J H;obtain⟨o,O,B,k,hd,M⟩:=iO J;obtain⟨S,v,I⟩:=R;subst k;simp only[wpOpsIn,O];have go:AOp P ⟨o.dst,v,I⟩ (mN P K c) T L->o.wpIn (fB r) 0 P a w (wpOpsIn (fB r) 0 P ops Q is) Q:=λp =>
    Hb B hd hst p λE' T' L' n w' y z m=>J1 is c H m z λF D q A C g=>hK F D q A C (y.trans g)
   have f:mN P K c (bC o.dst (.tup []) T) L->wpOpsIn (fB r) 0 P ops Q is (a.put o.dst undef) w:=λp =>
    J1 is c H (Ka hst hd) p hK
   rcases M with⟨g1,s⟩|⟨j,b,t,g1,s,g3,g4⟩
   .subst s;rw[if_pos (by simp[Region.wanted,g1])];exact go h
   .subst g4;simp only[mN]at h;have G:=kM (E:=E) (T:=T) (a:=a) (ops:=ops) hst.2.1 s (by rw[hst.2.2.1];exact g3);rcases hx:ar T t with _|u
    .rw[hx]at h;exact h.elim
    rw[hx]at h;cases u<;>try exact h.elim
    .rename_i x;rw[yT]at h;have:=G.1 x hx;by_cases e:x=b
     .rw[if_pos (by simp[Region.wanted,g1,this,e])];simp_all
     .rw[if_neg (by simp[Region.wanted,g1,this,e])];rw[if_neg e]at h;exact⟨λ_ _=>trivial,f h⟩
    .rename_i l;cases l with
     |cons _ _=>exact h.elim
     | nil =>
       have:=G.2 hx;rw[if_neg (by simp[Region.wanted,g1,this])];exact⟨λ_ _=>trivial,f h⟩
theorem St.weak{T:Tm}{L:List Blk}{E:Env}{a:Act}{w:World}{T':Tm}{L':List Blk}(h:St w0 S0 N E T L a w)(c:∀t v,ar T' t=some v->ar T t=some v)(d:L'.length=L.length)(b:∀(i:Nat) (k:Blk),L'[i]?=some k->k=.dead\/L[i]?=some k):St w0 S0 N E T' L' a w:=⟨h.1.kill d b,h.2.1.weak c,h.2.2⟩
end
def Opd.tmps:Opd->List Nat
 |.tmp t=>[t]
 |.av _=>[]
def XF:Option Opd->List Nat
 |some x=>x.tmps
 |none=>[]
def Sk:List (Nat×Nat×Opd)->List Nat
 |[]=>[]
 |(_,_,x)::l=>x.tmps++Sk l
def RI:List Opd->List Nat
 |[]=>[]
 |x::l=>x.tmps++RI l
def LOp.tmps:LOp->List Nat
 |.mv x|.box x|.load _ _ x|.nilchk x|.slnil _ x|.un _ x|.conv _ x|.sconv x|.b2s x|.s2b x|.s2bO x|.s2bG x|.rangeS x|.nextS x|.mkif _ x|.faddr _ x|.field _ _ _ x|.extract x _|.len _ x|.cap x|.clear _ _ x=>x.tmps
 |.pick c a b=>c.tmps++a.tmps++b.tmps
 |.alloc _|.bad|.mkmap=>[]
 |.mlen x|.mclr x|.mrange x|.mnext x|.mentry x=>x.tmps
 |.mget _ _ _ a x=>a.tmps++x.tmps
 |.mdel _ a x=>a.tmps++x.tmps
 |.mset _ c a b=>c.tmps++a.tmps++b.tmps
 |.build _ ps|.bslice _ _ _ _ ps=>Sk ps
 |.store _ a x|.bin _ a x|.eqk _ _ a x|.eq2 _ a x|.mkslice _ _ _ a x|.iaddr _ a x|.iaddrA _ _ a x|.idxS a x|.app _ _ _ _ a x|.appz _ _ _ a x|.copy _ a x=>a.tmps++x.tmps
 |.mkfn _ l|.minmax _ l|.call _ l=>RI l
 |.callv f l=>f.tmps++RI l
 |.slS x lo hi|.slA _ _ x lo hi=>x.tmps++XF lo++XF hi
 |.slV _ x lo hi mx=>x.tmps++XF lo++XF hi++XF mx
section
variable {T T':Tm}{L:List Blk}
theorem ax{x:Opd}(h:∀t∈x.tmps,ar T t=ar T' t):evX T x=evX T' x:=by
 cases x with
 |tmp t=>exact h t (by simp[Opd.tmps])
 |av a=>rfl
theorem mK{x:Option Opd}(h:∀t∈XF x,ar T t=ar T' t):bnd T x=bnd T' x:=by
 cases x with
 |none=>rfl
 |some x=>simp only[bnd,ax (x:=x) h]
theorem jS:∀{l:List Opd},(∀t∈RI l,ar T t=ar T' t)->iR T l=iR T' l
 |[],_=>rfl
 |x::l,h=>by simp only[RI,ae2]at h;simp only[iR,ax (x:=x) (λt a=>h t (.inl a)),jS (l:=l) (λt a=>h t (.inr a))]
theorem GA:∀{ps:List (Nat×Nat×Opd)}{z:List AV},(∀t∈Sk ps,ar T t=ar T' t)->lv T z ps=lv T' z ps
 |[],_,_=>rfl
 | (o,s,x)::l,z,h=>by
   simp only[Sk,ae2]at h;simp only[lv,ax (x:=x) (λt a=>h t (.inl a))];split
   .split
    .exact GA λt a=>h t (.inr a)
    .rfl
   .rfl
theorem Mg{lo:LOp}(h:∀t∈lo.tmps,ar T t=ar T' t):ak T L lo=ak T' L lo:=by
 cases lo
 case mv x=>simp only[ak,evD,ax (x:=x) h]
 case box x=>simp only[ak,evD,ax (x:=x) h]
 case load g s x=>simp only[ak,evD,ax (x:=x) h]
 case nilchk x=>simp only[ak,evD,ax (x:=x) h]
 case un o x=>simp only[ak,evD,ax (x:=x) h]
 case conv k x=>simp only[ak,evD,ax (x:=x) h]
 case sconv x=>simp only[ak,evD,ax (x:=x) h]
 case b2s x=>simp only[ak,evD,ax (x:=x) h]
 case bad=>rfl
 case mkmap=>rfl
 case mlen x=>simp only[ak,evD,ax (x:=x) h]
 case mclr x=>simp only[ak,evD,ax (x:=x) h]
 case mrange x=>simp only[ak,evD,ax (x:=x) h]
 case mnext x=>simp only[ak,evD,ax (x:=x) h]
 case mentry x=>simp only[ak,evD,ax (x:=x) h]
 case mget kd ok z a x =>
  simp only[LOp.tmps,ae2]at h;simp only[ak,evD,ax (x:=a) (λt ht=>h t (.inl ht)),ax (x:=x) (λt ht=>h t (.inr ht))]
 case mdel kd a x =>
  simp only[LOp.tmps,ae2]at h;simp only[ak,evD,ax (x:=a) (λt ht=>h t (.inl ht)),ax (x:=x) (λt ht=>h t (.inr ht))]
 case mset kd c a b =>
  simp only[LOp.tmps,ae2]at h;simp only[ak,evD,ax (x:=c) (λt ht=>h t (.inl (.inl ht))),ax (x:=a) (λt ht=>h t (.inl (.inr ht))),ax (x:=b) (λt ht=>h t (.inr ht))]
 case slnil _ x=>simp only[ak,evD,ax (x:=x) h]
 case s2b x=>simp only[ak,evD,ax (x:=x) h]
 case s2bO x=>simp only[ak,evD,ax (x:=x) h]
 case s2bG x=>simp only[ak,evD,ax (x:=x) h]
 case rangeS x=>simp only[ak,evD,ax (x:=x) h]
 case nextS x=>simp only[ak,evD,ax (x:=x) h]
 case mkif t x=>simp only[ak,evD,ax (x:=x) h]
 case faddr o x=>simp only[ak,evD,ax (x:=x) h]
 case field g o s x=>simp only[ak,evD,ax (x:=x) h]
 case extract x i=>simp only[ak,evD,ax (x:=x) h]
 case len b x=>cases b<;>simp only[ak,evD,ax (x:=x) h]
 case cap x=>simp only[ak,evD,ax (x:=x) h]
 case clear s z x=>simp only[ak,evD,ax (x:=x) h]
 case alloc z=>rfl
 case pick c a b =>
  simp only[LOp.tmps,ae2]at h;simp only[ak,evD,ax (x:=c) (λt ht=>h t (.inl (.inl ht))),ax (x:=a) (λt ht=>h t (.inl (.inr ht))),ax (x:=b) (λt ht=>h t (.inr ht))]
 case build z ps=>simp only[ak,evD,GA (ps:=ps) h]
 case bslice o s n z ps=>simp only[ak,evD,GA (ps:=ps) h]
 case mkfn f l=>simp only[ak,evD,jS (l:=l) h]
 case minmax m l =>
  match l,h with
  | [x,y],h =>
    simp only[LOp.tmps,RI,ae2,afq]at h;simp only[ak,evD,ax (x:=x) (λt ht=>h t (.inl ht)),ax (x:=y) (λt ht=>h t (.inr ht))]
  |[],_=>rfl
  |[_],_=>rfl
  |_::_::_::_,_=>rfl
 case call f l=>rfl
 case callv f l=>rfl
 case slS x lo hi =>
  simp only[LOp.tmps,ae2]at h;simp only[ak,evD,ax (x:=x) (λt ht=>h t (.inl (.inl ht))),mK (x:=lo) (λt ht=>h t (.inl (.inr ht))),mK (x:=hi) (λt ht=>h t (.inr ht))]
 case slA n s x lo hi =>
  simp only[LOp.tmps,ae2]at h;simp only[ak,evD,ax (x:=x) (λt ht=>h t (.inl (.inl ht))),mK (x:=lo) (λt ht=>h t (.inl (.inr ht))),mK (x:=hi) (λt ht=>h t (.inr ht))]
 case slV s x lo hi mx =>
  simp only[LOp.tmps,ae2]at h;simp only[ak,evD,ax (x:=x) (λt ht=>h t (.inl (.inl (.inl ht)))),mK (x:=lo) (λt ht=>h t (.inl (.inl (.inr ht)))),mK (x:=hi) (λt ht=>h t (.inl (.inr ht))),mK (x:=mx) (λt ht=>h t (.inr ht))]
 all_goals
  rename_i a x;simp only[LOp.tmps,ae2]at h;simp only[ak,evD,ax (x:=a) (λt ht=>h t (.inl ht)),ax (x:=x) (λt ht=>h t (.inr ht))]
end
def aj.reads(o:aj):List Nat :=
 o.op.tmps++(match o.guard with|some (t,_)=>[t]|none=>[])
def AQv(P:Program)(o:aj)(T:Tm)(L:List Blk)(v:AV):Prop :=
 match o.op with
 | .call f xs=>match iR T xs with
   |some args=>ac P f args L λav L'=>av=v/\L'=L
   |none=>False
 | .callv f xs=>match evX T f,iR T xs with
   |some (.func g caps),some args=>ac P g (args++caps) L λav L'=>av=v/\L'=L
   |_,_=>False
 | lo=>match ak T L lo with
   |some (c,av,L')=>c/\av=v/\L'=L
   |none=>False
def AQ(P:Program)(o:aj)(T:Tm)(L:List Blk)(v:AV):Prop :=
 match o.guard with
 |none=>AQv P o T L v
 | some (t,b)=>match ar T t with
   |some (.bool x)=>if x=b then AQv P o T L v else v=.tup []
   |some (.tup [])=>v=.tup []
   |_=>False
theorem AQ.congr{P:Program}{o:aj}{T T':Tm}{L:List Blk}(h:∀t∈o.reads,ar T t=ar T' t)(g:AQ P o T L v):AQ P o T' L v:=by
 have a:∀t∈o.op.tmps,ar T t=ar T' t:=λt d=>h t (by simp[aj.reads,d])
 have c:AQv P o T L v->AQv P o T' L v:=λc=>by unfold AQv at c⊢;split at c;rename_i f xs e;rw[e]at a;rw[<- jS (l:=xs) a];exact c;rename_i f xs e;rw[e]at a;simp only[LOp.tmps,ae2]at a;rw[<- jS (l:=xs) (λt d=>a t (.inr d)),<- ax (x:=f) (λt d=>a t (.inl d))];exact c;rw[<- Mg a];exact c
 unfold AQ at g⊢;split at g;simp[*];rename_i t b i;rw[<- h t (by simp[aj.reads,i])]
 grind
def TL(T:Tm):List aj->List AV->Nat->(Nat->Bool)->Tm
 |o::qs,v::tr,k,f=>TL (if f k=true then bC o.dst v T else T) qs tr (k+1) f
 |_,_,_,_=>T
def UR:List aj->Prop
 |[]=>True
 |o::qs=>(∀p∈qs,∀d,o.dst=some d->p.dst≠some d)/\UR qs
theorem zc{T:Tm}(h:d≠some t):ar (bC d v T) t=ar T t:=by
 cases d with
 |none=>rfl
 |some d=>simp only[bC,ar];rw[if_neg (λe=>h (by rw[e]))]
theorem LX{T:Tm}:ar (bC (some t) v T) t=some v:=by simp[bC,ar]
theorem Po{t:Nat}:∀{qs:List aj}{tr:List AV}{T:Tm}{k:Nat}{f:Nat->Bool},(∀(j:Nat) (o:aj),qs[j]?=some o->o.dst=some t->f (k+j)=false)->ar (TL T qs tr k f) t=ar T t
 |[],tr,T,k,f,_=>by cases tr<;>rfl
 |o::qs,[],T,k,f,_=>rfl
 | o::qs,v::tr,T,k,f,h=>by
   simp only[TL];rw[Po (λj p a hd=>by have:=h (j+1) p (by simpa using a) hd;rwa[show k+1+j=k+(j+1)by omega])];split
   .rename_i hf;refine zc λe=>?_
    have:=h 0 o ah4 e;simp_all
   .rfl
theorem W3{t:Nat}{v:AV}:∀{qs:List aj}{tr:List AV}{T:Tm}{k:Nat}{f:Nat->Bool}{j:Nat}{o:aj},UR qs->qs[j]?=some o->o.dst=some t->tr[j]?=some v->f (k+j)=true->ar (TL T qs tr k f) t=some v
 |[],_,_,_,_,j,o,_,h,_,_,_=>by simp at h
 |p::qs,[],_,_,_,j,o,_,_,_,h,_=>by simp at h
 |p::qs,u::tr,T,k,f,0,o,hD,h,hd,hv,hf=>by simp only[afW,aeZ]at h hv;subst h hv;simp only[TL];simp only[agk]at hf;rw[if_pos hf,Po λj q b a=>absurd a (hD.1 q (af0 b) t hd),hd];exact LX
 |p::qs,u::tr,T,k,f,j+1,o,hD,h,hd,hv,hf=>by simp only[TL];exact W3 hD.2 (by simpa using h) hd (by simpa using hv) (by rwa[show k+1+j=k+(j+1)by omega])
theorem S6:∀{qs:List aj}{tr:List AV}{T:Tm}{k:Nat}{f g:Nat->Bool},(∀j,j<qs.length->f (k+j)=g (k+j))->TL T qs tr k f=TL T qs tr k g
 |[],tr,T,k,f,g,_=>by cases tr<;>rfl
 |o::qs,[],T,k,f,g,_=>rfl
 |o::qs,v::tr,T,k,f,g,h=>by simp only[TL];have a:=h 0 ah4;simp only[agk]at a;rw[a];exact S6 λj b=>by rw[show k+1+j=k+(j+1)by omega];exact h (j+1) (by simpa using b)
theorem UK:∀(qs:List aj) (tr:List AV) (T:Tm) (k:Nat),TL T qs tr k (λ_=>false)=T:=by
 intro qs;induction qs with
 |nil=>intro tr T k;cases tr<;>rfl
 | cons q qs ih=>intro tr T k;cases tr with
   |nil=>rfl
   |cons u tr=>simp only[TL];rw[ih];simp
theorem GY{t:Nat}:∀{qs:List aj}{i j:Nat}{o p:aj},UR qs->qs[i]?=some o->qs[j]?=some p->o.dst=some t->p.dst=some t->i=j
 |[],i,j,o,p,_,h,_,_,_=>by simp at h
 |q::qs,0,0,o,p,_,_,_,_,_=>rfl
 |q::qs,0,j+1,o,p,hD,h1,h2,d1,d2=>by simp only[afW,aeZ]at h1;subst h1;exact absurd d2 (hD.1 p (af0 (by simpa using h2)) t d1)
 |q::qs,i+1,0,o,p,hD,h1,h2,d1,d2=>by simp only[afW,aeZ]at h2;subst h2;exact absurd d1 (hD.1 o (af0 (by simpa using h1)) t d2)
 |q::qs,i+1,j+1,o,p,hD,h1,h2,d1,d2=>by have:=GY (i:=i) (j:=j) (o:=o) (p:=p) hD.2 (by simpa using h1) (by simpa using h2) d1 d2;omega
theorem SY{qs:List aj}{tr:List AV}{T:Tm}{f:Nat->Bool}{j:Nat}{o:aj}(c:UR qs)(i:tr.length=qs.length)(h:qs[j]?=some o)(hd:o.dst=some t):
  ar (TL T qs tr 0 f) t=if f j=true then tr[j]? else ar T t:=by
 have d:j<tr.length:=by have:=(aeY.1 h).1;omega
 split;rename_i e;rw[afn d];exact W3 c h hd (afn d) (by simpa using e);rename_i e;exact Po λk g a b=>by have:=GY c a h b hd;simp[*]
theorem SZ{qs:List aj}{tr:List AV}{T:Tm}{f:Nat->Bool}(h:∀(j:Nat) (o:aj),qs[j]?=some o->o.dst≠some t):ar (TL T qs tr 0 f) t=ar T t :=
 Po λj o a hd=>absurd hd (h j o a)
def WU(tbl:List Nat)(o:Oper):Nat:=(o.after.toList.filter λe=>Region.binds .any e).foldl (λacc e=>acc |||(1 <<< e.on) |||tbl.getD e.on 0) 0
def om:List Oper->List Nat->List Nat
 |[],t=>t
 |o::l,t=>om l (t++[WU t o])
def Z5(ops:Array Oper)(tbl:List Nat):Bool:=ops.toList.zipIdx.all λ(o,i)=>tbl.getD i 0 == WU tbl o
theorem R0{o:Oper}{j:Nat}(h:(WU tbl o).testBit j=true):∃e∈o.after.toList,Region.binds .any e=true/\(j=e.on\/(tbl.getD e.on 0).testBit j=true):=by
 have key:∀(l:List Edge) (b:Nat),(l.foldl (λb e=>b |||(1 <<< e.on) |||tbl.getD e.on 0) b).testBit j=true->b.testBit j=true\/∃e∈l,j=e.on\/(tbl.getD e.on 0).testBit j=true:=by
  intro l;induction l with
  |nil=>intro b h;exact .inl h
  | cons e l ih =>
    intro b h;rcases ih _ h with a|⟨d,a,c⟩
    .rw[Nat.testBit_or,Nat.testBit_or,afM,afM]at a;rcases a with(a|a)|a
     .simp[*]
     .refine .inr ⟨e,ah4,.inl ?_⟩;rw[Nat.one_shiftLeft,Nat.testBit_two_pow]at a;exact(of_decide_eq_true a).symm
     .exact .inr ⟨e,ah4,.inr a⟩
    .exact .inr ⟨d,by simp[a],c⟩
 rcases key _ _ h with a|⟨e,a,c⟩;simp at a;rw[afB]at a;exact⟨e,a.1,a.2,c⟩
def WT:List aj->Bool
 |[]=>true
 |o::qs=>(match o.dst with|some d=>qs.all λp => !(p.dst == some d)|none=>true)&&WT qs
theorem Qt:∀{qs:List aj},WT qs=true->UR qs
 |[],_=>trivial
 |o::qs,h=>by simp only[WT,ae7]at h;refine⟨λp a d hd=>?_,Qt h.2⟩;simp_all
def aea(tbl:List Nat)(los:List aj):Bool :=
 los.zipIdx.all λ(o,i)=>o.reads.all λt=>los.zipIdx.all λ(p,j) => !(p.dst == some t) ||(tbl.getD i 0).testBit j ||(tbl.getD j 0).testBit i
def QW(ops:Array Oper):Bool:=ops.toList.zipIdx.all λ(o,i)=>o.after.toList.all λe => !Region.binds .any e ||decide (e.on<i)
def VZ(tbl:List Nat)(n k:Nat):Bool:=(List.range k).all λi=>decide (i<n) ||(List.range i).all λj=>(tbl.getD i 0).testBit j
def R2(tbl:List Nat)(k:Nat):Nat->Nat
 |0=>0
 |n+1=>if((List.range n).all λj=>(tbl.getD n 0).testBit j)=true then R2 tbl k n else n+1
def GB(ops:Array Oper)(los:List aj)(n:Nat):Bool :=
 let tbl:=om ops.toList []
 WT los&&aea tbl los&&QW ops&&Z5 ops tbl&&VZ tbl n ops.size
def No(ops:Array Oper)(listed:Array Bool):Prop:=∀(i:Nat) (o:Oper),listed.getD i false=true->ops[i]?=some o->∀e∈o.after,Region.binds .any e=true->listed.getD e.on false=true
theorem Wl{ops:Array Oper}(a:Z5 ops tbl=true){o:Oper}(b:ops[i]?=some o):tbl.getD i 0=WU tbl o:=by have:=afd.1 a (o,i) (by rw[agY];simpa using b);simp_all
theorem Hc{ops:Array Oper}(h:QW ops=true){o:Oper}(a:ops[i]?=some o){e:Edge}(b:e∈o.after)(c:Region.binds .any e=true):e.on<i:=by
 have:=afd.1 h (o,i) (by rw[agY];simpa using a)
 grind
theorem SM{ops:Array Oper}(h:QW ops=true)(g:Z5 ops tbl=true):∀(i j:Nat),i<ops.size->(tbl.getD i 0).testBit j=true->j<i:=by
 intro i;induction i using Nat.strongRecOn with
 | _ i ih =>
   intro j d a;have b:ops[i]?=some ops[i]:=afR d;rw[Wl g b]at a;obtain⟨e,f,c,a⟩:=R0 a;have k:=Hc h b (by simpa using f) c
   grind
theorem fD{ops:Array Oper}(h:QW ops=true)(u:Z5 ops tbl=true){a:Array Bool}(t:No ops a):∀(i j:Nat),i<ops.size ->
  (∀o,ops[i]?=some o->∀e∈o.after,Region.binds .any e=true->a.getD e.on false=true)->(tbl.getD i 0).testBit j=true->a.getD j false=true:=by
 intro i;induction i using Nat.strongRecOn with
 | _ i ih =>
   intro j p g b;have l:ops[i]?=some ops[i]:=afR p;rw[Wl u l]at b;obtain⟨e,n,m,b⟩:=R0 b;have k:=Hc h l (by simpa using n) m;have q:=g _ l e (by simpa using n) m;rcases b with rfl|b
   .omega
   .exact ih e.on k j ah3 (λs f r c d=>t e.on s q f r c d) b
theorem Yf:∀(l:List Bool) (i:Nat),l[i]?=some false->(l.set i true).count false+1=l.count false
 |[],i,h=>by simp at h
 |b::l,0,h=>by simp at h;subst h;simp
 |b::l,i+1,h=>by grind
theorem za{P:Program}{N:Nat}{own:Nat->Nat}{ops:Array Oper}:∀{is:List Nat}{a:List aj},bt P N own ops is=some a->a.length=is.length/\∀(k i:Nat),is[k]?=some i->∃b,a[k]?=some b/\mR P N own ops i=some b
 |[],a,h=>by simp[bt]at h;subst h;simp
 | j::is,a,h=>by
   simp only[bt]at h;split at h<;>try cases h
   rename_i o m d c;have:=za c
   grind
section
variable {P:Program}{r:Option Nat}{w0:World}{S0:SB}{N:Nat}{own:Nat->Nat}{ops:Array Oper}{L:List Blk}
theorem aaw{i:Nat}{q:aj}(O:mR P N own ops i=some q){T:Tm}{v:AV}{E:Env}{a:Act}{w:World}(d:St w0 S0 N E T L a w)(l:AQ P q T L v){K:Act->World->Prop}{Q:Exit->Act->World->Prop}(A:∀E' s w',E.le E'->St w0 S0 N E' (bC q.dst v T) L s w'->K s w'):wpOpIn (fB r) 0 P ops Q i K a w:=by
 obtain⟨o,U,n,m,hd,I⟩:=iO O;obtain⟨W,k,u⟩:=q;simp only at n m I A;subst m;unfold wpOpIn;simp only[U];have p:AQv P ⟨o.dst,k,u⟩ T L v->AOp P ⟨o.dst,k,u⟩ (λT' L'=>T'=bC o.dst v T/\L'=L) T L:=λh=>by
  unfold AQv at h;unfold AOp;simp only at h⊢;split at h;split at h;rename_i f xs _ args y;show Cal P f _ o.dst T L (iR T xs);rw[y];exact h.mono λav L' ⟨B,C⟩=>by subst B;exact⟨rfl,C⟩
  simp_all;split at h;rename_i f xs _ _ g caps args F G;show Yy P _ o.dst T L (evX T f) (iR T xs);rw[F,G];exact h.mono λav L' ⟨B,C⟩=>by subst B;exact⟨rfl,C⟩
  simp_all;split at h;rename_i c av L' y;have H:Res (λT' L'=>T'=bC o.dst v T/\L'=L) o.dst T (ak T L k):=by rw[y];obtain⟨R,rfl,rfl⟩:=h;exact⟨R,rfl,rfl⟩
  simp_all;simp_all
 have go:AQv P ⟨o.dst,k,u⟩ T L v->o.wpIn (fB r) 0 P a w K Q:=λh =>
  Hb n hd d (p h) λE' T' L' s w' S V M=>by grind
 unfold AQ at l;rcases I with⟨g1,z⟩|⟨j,b,t,g1,z,g3,g4⟩;subst z;simp only at l;rw[if_pos (by simp[Region.wanted,g1])];simp[*];subst g4;simp only at l;have J:=kM (E:=E) (T:=T) (a:=a) (ops:=ops) d.2.1 z (by rw[d.2.2.1];exact g3);split at l;rename_i x D;have:=J.1 x D;by_cases e:x=b;rw[if_pos e]at l;rw[if_pos (by simp[Region.wanted,g1,this,e])];simp[*];rw[if_neg e]at l;subst l;rw[if_neg (by simp[Region.wanted,g1,this,e])];exact⟨λ_ _=>trivial,A E _ w (.refl E) (Ka d hd)⟩;rename_i D;have:=J.2 D;subst l;rw[if_neg (by simp[Region.wanted,g1,this])];exact⟨λ_ _=>trivial,A E _ w (.refl E) (Ka d hd)⟩;simp_all
theorem QU{i:Nat}{y:aj}(D:mR P N own ops i=some y){T:Tm}{L:List Blk}{E:Env}{a:Act}{w:World}(c:St w0 S0 N E T L a w){K:Tm->List Blk->Prop}(h:mN P K [y] T L){m:Act->World->Prop}{Q:Exit->Act->World->Prop}(B:∀E' T' L' k w',E.le E'->K T' L'->St w0 S0 N E' T' L' k w'->m k w'):wpOpIn (fB r) 0 P ops Q i m a w:=by
 obtain⟨o,G,z,f,hd,F⟩:=iO D;obtain⟨H,q,C⟩:=y;subst f;unfold wpOpIn;simp only[G];have go:AOp P ⟨o.dst,q,C⟩ (mN P K []) T L->o.wpIn (fB r) 0 P a w m Q:=λn =>
  Hb z hd c n λE' T' L' k w' s v g=>B E' T' L' k w' s v g
 have d:K (bC o.dst (.tup []) T) L->m (a.put o.dst undef) w:=λn=>B E _ L _ w (.refl E) n (Ka c hd)
 rcases F with⟨g1,p⟩|⟨j,b,t,g1,p,g3,g4⟩;subst p;rw[if_pos (by simp[Region.wanted,g1])];exact(go h);subst g4;simp only[mN]at h;have A:=kM (E:=E) (T:=T) (a:=a) (ops:=ops) c.2.1 p (by rw[c.2.2.1];exact g3);rcases hx:ar T t with _|u;rw[hx]at h;exact h.elim;rw[hx]at h;cases u<;>try exact h.elim
 rename_i x;rw[yT]at h;have:=A.1 x hx;by_cases e:x=b;rw[if_pos (by simp[Region.wanted,g1,this,e])];rw[if_pos e]at h;exact(go h);rw[if_neg (by simp[Region.wanted,g1,this,e])];rw[if_neg e]at h;exact⟨λ_ _=>trivial,d h⟩;rename_i l;cases l with
 |cons _ _=>exact h.elim
 | nil =>
   have:=A.2 hx;rw[if_neg (by simp[Region.wanted,g1,this])];exact⟨λ_ _=>trivial,d h⟩
theorem U1{I:List aj}{tbl:List Nat}{n:Nat}(H:bt P N own ops (List.range ops.size)=some I)(c:QW ops=true)(G:Z5 ops tbl=true)(s:VZ tbl n ops.size=true){K:Tm->List Blk->Prop}{Q:Exit->Act->World->Prop}{E0:Env}(hQ:∀E' T' L' O w',E0.le E'->K T' L'->St w0 S0 N E' T' L' O w'->Q .normal O w'):
  ∀(ts:List aj) (k:Nat) (b:Array Bool) (T:Tm) (L:List Blk) (a:Act) (w:World) (E:Env),n<=k->k+ts.length=ops.size->I.drop k=ts->b.size=ops.size ->
   (∀i,i<ops.size->b.getD i false=decide (i<k))->No ops b->E0.le E->St w0 S0 N E T L a w->mN P K ts T L->wpAnyIn (fB r) 0 P .any ops Q ts.length b a w:=by
 have J:=za H;have p:∀(k:Nat) (b:Array Bool),n<=k->b.size=ops.size->(∀i,i<ops.size->b.getD i false=decide (i<k))->No ops b->∀i∈Region.ready .any ops b,i=k:=by
  intro k b u q v f i A;obtain⟨ad,o,W,X⟩:=mem_ready.1 A;have D:i<ops.size:=(afJ.1 W).1;have C:¬i<k:=λe=>by simp_all
  rcases aft k i with S|S;have:=afd.1 s i (by simpa using D);simp only[afM,decide_eq_true_eq]at this;rcases this with h2|h2;omega;have h3:=afd.1 h2 k (by simpa using S);have h4:=fD c G f i k D (λo' m=>by rw[W]at m;cases m;exact X) h3
  grind
  omega
 intro ts;induction ts with
 | nil =>
   intro k b T L a w E u hk x q v f Y y h;refine⟨List.eq_nil_iff_forall_not_mem.2 (λi A=>?_),hQ E T L a w Y h y⟩;have S:=p k b u q v f i A;obtain⟨_,o,W,_⟩:=mem_ready.1 A;simp_all
 | cons t ts ih =>
   intro k b T L a w E u hk x q v f Y y h;simp only[afg]at hk;have z:k<ops.size:=ah3;have F:k∈Region.ready .any ops b:=by
    refine mem_ready.2 ⟨?_,ops[k],afR z,λe R ab=>?_⟩
    .simp_all
    .have:=Hc c (afR z) R ab;rw[v _ ah3];simpa using this
   refine⟨λe=>absurd F (by rw[e];simp),λi A=>?_⟩;have C:=p k b u q v f i A;subst C;obtain⟨Z,g1,g2⟩:=J.2 i i (by simp[z]);have ht:Z=t:=by have:=congrArg (λl=>l[0]?) x;simp only[afE,agk,afW]at this;rw[g1]at this;exact Option.some.inj this
   subst ht;have h':mN P (mN P K ts) [Z] T L:=by obtain⟨d,op,g⟩:=Z;cases g<;>exact h
   exact QU g2 y h' λE' T' L' O w' U V M=>by
    refine ih (i+1) (b.setIfInBounds i true) T' L' O w' E' ah3 ah3 ?_ (by simpa using q) (λj B=>?_) ?_ (Y.trans U) M V
    .rw[<- agE,x];rfl
    .by_cases e:j=i
     .subst e;have:j<b.size:=ah3;simp[agl,this]
     .rw[getD_set_ne false (Ne.symm e),v j B];congr 1;apply propext;omega
    .intro j o' B m e R hb;have h5:=Hc c m R hb;have h6:j<ops.size:=(afJ.1 m).1;by_cases e1:j=i
     .subst e1;rw[getD_set_ne false ah3,v _ ah3];simpa using h5
     .rw[getD_set_ne false (Ne.symm e1)]at B;rw[getD_set_ne false (by rw[v j h6]at B;simp at B;omega)];exact f j o' B m e R hb
def lst(L:List Blk)(al:Option (Nat×List AV))(listed:Array Bool):List Blk :=
 match al with
 |some (i,z)=>if listed.getD i false=true then L++[.cells z]else L
 |none=>L
end
end Go.Proofs.YtajkbcmleihaoaaGreatDoor.Av
