/- Joined texts of the walk, made small by a program. -/
import Derived.Test.YtajkbcmleihaoaaGreatDoorZk2
import Derived.MapKept
set_option linter.unusedSimpArgs false
set_option linter.unusedVariables false
namespace Go.Proofs.YtajkbcmleihaoaaGreatDoor.Av
open Go
variable {f:FuncId}{i t:Nat}{args:List AV}{K:Tm->List Blk->Prop}{d:Option Nat}{b:Bool}{v:AV}{tbl:List Nat}
section
variable {P:Program}{w0:World}{S0:SB}{E:Env}{L:List Blk}{w:World}{T:Tm}{a:Act}
theorem VQ{own:Nat}{s d:TypeId}{x:Operand}{z:Opd}{y:LOp}{c:Prop}{av:AV}{L':List Blk}(o:Rel w0 S0 E L w)(m:TR E T a)(p:aY x=some z)(h:xQ P own s d z=some y)(b:ak T L y=some (c,av,L'))(v:c):
  du P w0 S0 E L' av w (do pure (.value (<- convert s d (a.eval x)))):=by
 unfold xQ at h;split at h;rename_i j k i hd;cases h;simp only[ak]at b;split at b<;>try cases b
 rename_i q n g;exact(UY o ⟨j,i⟩ hd (ah p g m)).done;rename_i i hd;cases h;simp only[ak]at b;split at b<;>try cases b
 rename_i l g;exact(Sx o i hd (ah p g m) ⟨l,rfl⟩).done;rename_i e i hd;split at h<;>try cases h
 rename_i f;simp only[ak]at b;split at b<;>try cases b
 rename_i u B g;split at b<;>try cases b
 rename_i c' l n A;exact(WP o i f hd (ah p g m) A v.1 v.2 (λt e=>B t e)).done
 .rename_i e i hd;split at h<;>try cases h
  rename_i f
  repeat' split at h
  all_goals cases h
  simp only[ak]at b;split at b<;>try cases b
  rename_i r g;exact(US o i hd f (ah p g m)).done;simp only[ak]at b;split at b<;>try cases b
  rename_i r g;exact(UT o i hd f (ah p g m)).done;simp only[ak]at b;split at b<;>try cases b
  rename_i r g;exact(WM o i hd f (ah p g m)).done
 simp_all
theorem TW{xs:List Operand}{a:List Opd}(h:mW xs=some a):a.length=xs.length/\∀(i:Nat) (y:Opd),a[i]?=some y->∃x,xs[i]?=some x/\aY x=some y:=by
 induction xs generalizing a with
 |nil=>simp[mW]at h;subst h;simp
 | cons x xs ih =>
   simp only[mW,adW]at h;rcases h1:aY x with _|y
   .simp_all
   .rcases h2:xs.mapM aY with _|b
    .simp_all
    .have:=ih (by simpa[mW]using h2)
     grind
theorem Xl{xs:List Operand}{y:Opd}(h:mW xs=some [y]):∃x,xs=[x]/\aY x=some y:=by
 have:=TW h
 match xs,this with
 | [x],⟨_,h2⟩ =>
   obtain⟨z,a,h4⟩:=h2 0 y aev
   grind
theorem Rs{xs:List Operand}{y z:Opd}(h:mW xs=some [y,z]):∃u v,xs=[u,v]/\aY u=some y/\aY v=some z:=by
 have:=TW h
 match xs,this with
 | [u,v],⟨_,h2⟩ =>
   obtain⟨p,c,h4⟩:=h2 0 y aev;obtain⟨q,b,a⟩:=h2 1 z aev
   grind
theorem X6{own:Nat}{t:TypeId}{y:Opd}{xs:List Operand}{ty:TypeId}{cs:Array Bool}{C:LOp}{c:Prop}{av:AV}{L':List Blk}(B:Rel w0 S0 E L w)(r:TR E T a)(H:mW xs=some [y])(l:b9 P own .len [t] [y]=some C)(j:ak T L C=some (c,av,L')):du P w0 S0 E L' av w (builtin .len ⟨[t]⟩ ty cs ⟨xs.map a.eval⟩):=by
 obtain⟨x,rfl,k⟩:=Xl H;have i:∀(n:Int),(Builtin.len_ #[t] ty #[a.eval x]).run P w=.ok (.int .i64 n) w->du P w0 S0 E L (.int .i64 n) w (builtin .len ⟨[t]⟩ ty cs ⟨[x].map a.eval⟩):=λn h=>.same B (v:=.int .i64 n) (by simp[builtin,h]) (by simp[VR])
 simp only[b9]at l;split at l;rename_i hd;cases l;simp only[ak]at j;split at j<;>try cases j
 rename_i s o;have g:=ah k o r;simp only[VR]at g;have A:(ByteArray.mk ⟨s⟩).size=s.length:=rfl;exact i _ (by simp only[Builtin.len_,ads,acs,abF,run_underlying hd,abG,g,goInt,A,ab8])
 .rename_i e hd;cases l;simp only[ak]at j;split at j<;>try cases j
  all_goals rename_i o;have g:=ah k o r
  simp only[VR]at g;exact i _ (by simp[Builtin.len_,run_underlying hd,g,goInt]);obtain⟨_,_,g,_⟩:=g;exact i _ (by simp[Builtin.len_,run_underlying hd,g,goInt]);obtain⟨_,_,g,_⟩:=g;exact i _ (by simp[Builtin.len_,run_underlying hd,g,goInt]);obtain⟨_,_,g⟩:=g.lsl_shape;exact i _ (by simp[Builtin.len_,run_underlying hd,g,goInt])
 rename_i n e hd;cases l;obtain⟨rfl,rfl,rfl⟩:=j;exact i _ (by simp[Builtin.len_,run_underlying hd,goInt])
 .rename_i kt et hd;cases l;simp only[ak]at j;split at j<;>try cases j
  all_goals rename_i o;have g:=ah k o r
  simp only[VR]at g;exact i _ (by simp[Builtin.len_,run_underlying hd,g,goInt]);split at j<;>try cases j
  rename_i es ck G;obtain⟨d,u,g⟩:=g;obtain⟨I,rs,g1,F,g3⟩:=B.blk _ _ G;rw[u]at g1;cases g1;have m:∀{es:List (AV×AV×Nat)}{rs:List MapEntry},ay E es rs->rs.length=es.length:=by
   intro es;induction es with
   |nil=>intro rs h;simp only[ay]at h;subst h;rfl
   |cons p es ih=>intro rs h;obtain⟨q,y,b⟩:=p;obtain⟨f,s,rfl,_,_,_,g4⟩:=h;simp[ih g4]
  have D:(getObj d.blk).run P w=.ok (.map rs ck) w:=(by simp[getObj,Sem.run,F]);have z:rs.size=es.length:=(by rw[<- m g3];simp);exact i _ (by simp[Builtin.len_,run_underlying hd,g,goInt,D,z])
 simp_all
theorem X8{own:Nat}{t:TypeId}{y:Opd}{xs:List Operand}{ty:TypeId}{cs:Array Bool}{k:LOp}{c:Prop}{av:AV}{L':List Blk}(m:Rel w0 S0 E L w)(l:TR E T a)(p:mW xs=some [y])(g:b9 P own .cap [t] [y]=some k)(f:ak T L k=some (c,av,L')):du P w0 S0 E L' av w (builtin .cap ⟨[t]⟩ ty cs ⟨xs.map a.eval⟩):=by
 obtain⟨x,rfl,j⟩:=Xl p;have b:∀(n:Int),(Builtin.cap_ #[t] ty #[a.eval x]).run P w=.ok (.int .i64 n) w->du P w0 S0 E L (.int .i64 n) w (builtin .cap ⟨[t]⟩ ty cs ⟨[x].map a.eval⟩):=λn h=>.same m (v:=.int .i64 n) (by simp[builtin,h]) (by simp[VR])
 simp only[b9]at g;split at g
 .rename_i e hd;cases g;simp only[ak]at f;split at f<;>try cases f
  all_goals rename_i o;have d:=ah j o l;simp only[VR]at d
  exact b _ (by simp[Builtin.cap_,run_underlying hd,d,goInt]);obtain⟨_,_,d,_,i,_⟩:=d;exact b _ (by simp[Builtin.cap_,run_underlying hd,d,goInt,i _ rfl]);obtain⟨_,_,_,_,d,_,_,i,_⟩:=d;exact b _ (by simp[Builtin.cap_,run_underlying hd,d,goInt,i _ rfl])
 rename_i n e hd;cases g;simp only[ak,evX,abQ,abz,abI]at f;obtain⟨rfl,rfl,rfl⟩:=f;exact b _ (by simp[Builtin.cap_,run_underlying hd,goInt]);simp_all
theorem Pi{t ty:TypeId}{q:TypeDesc}{x:AV}{p:Value}(f:Rel w0 S0 E L w)(n:P.underlying t=some q)(j:VR E x p):
  (x=.nilmap->bK P w0 S0 E L (.tup []) w (Builtin.clear_ #[t] ty #[p])) /\
  (∀i es ck,x=.lmap i->L[i]?=some (.map es ck)->bK P w0 S0 E (L.set i (.map [] ck)) (.tup []) w (Builtin.clear_ #[t] ty #[p])):=by
 refine⟨λl=>?_,λi es ck l m=>?_⟩<;>subst l<;>simp only[VR]at j;subst j;exact .same f (v:=.tuple #[]) (by simp[Builtin.clear_,run_underlying n]) ⟨[],rfl,rfl⟩;obtain⟨c,d,rfl⟩:=j;obtain⟨c',rs,k,g,s⟩:=f.blk i _ m;rw[d]at k;cases k;have h:c.blk<w.heap.size:=(acl.1 g).1;have o:(getObj c.blk).run P w=.ok (.map rs ck) w:=by simp[getObj,Sem.run,g]
 have a:(setObj c.blk (.map #[] ck)).run P w=.ok () {w with heap:=w.heap.setIfInBounds c.blk (.map #[] ck)}:=by simp[setObj,Sem.run,g]
 refine⟨E,.tuple #[],{w with heap:=w.heap.setIfInBounds c.blk (.map #[] ck)},by simp[Builtin.clear_,run_underlying n,o,a],.refl E,⟨[],rfl,rfl⟩,?_⟩;exact f.turn (w':={w with heap:=w.heap.setIfInBounds c.blk (.map #[] ck)}) (k':=.map [] ck) m rfl d aev (λb r=>by simp[adr,Ne.symm r]) rfl rfl rfl
  ⟨c,#[],d,by simp[h],by simp[ay]⟩ (λ_ _ e=>by cases e)
theorem Qn{own:Nat}{b:Builtin}{ts:List TypeId}{xs:List Operand}{X:List Opd}{ty:TypeId}{cs:Array Bool}{V:LOp}{c:Prop}{av:AV}{L':List Blk}(r:Rel w0 S0 E L w)(h:TR E T a)(J:mW xs=some X)(f:b9 P own b ts X=some V)(d:ak T L V=some (c,av,L'))(H:c)(Q:b=.delete->du P w0 S0 E L' av w (builtin b ⟨ts⟩ ty cs ⟨xs.map a.eval⟩)):du P w0 S0 E L' av w (builtin b ⟨ts⟩ ty cs ⟨xs.map a.eval⟩):=by
 have M:=f;unfold b9 at f;split at f;exact X6 r h J M d;exact X8 r h J M d;rename_i t t' y z;obtain⟨u,v,rfl,o,G⟩:=Rs J;have key:∀e s j B,P.underlying t=some (.slice e)->((∃W,P.underlying t'=some (.slice W))\/P.underlying t'=some .string)->bG P e=some s->N9 P e=some j->zOf P e=some B->B.length=s->V=.app own s j B y z ->
   du P w0 S0 E L' av w (builtin .append ⟨[t,t']⟩ ty cs ⟨[u,v].map a.eval⟩):=λe s j B K I F h4 C D U=>by
  subst U;simp only[ak]at d;split at d<;>try cases d
  rename_i p q g x;exact(WQ r K I F h4 C D (ah o g h) (ah G x h) d H).done
 split at f;rename_i e W K I;split at f<;>try cases f
 rename_i s j B F h4 C;split at f<;>try cases f
 rename_i D;exact key e s j B K (.inl ⟨_,I⟩) F h4 C D rfl;rename_i e K I;split at f<;>try cases f
 rename_i s j B F h4 C;split at f<;>try cases f
 rename_i D;exact key e s j B K (.inr I) F h4 C D rfl;rename_i e q K I;split at f<;>try cases f
 rename_i s j B F h4 C;split at f<;>try cases f
 rename_i D;simp only[ak]at d;split at d<;>try cases d
 rename_i i off m cp s2 q2 k g x;split at d<;>try cases d
 rename_i l R;split at d<;>try cases d
 rename_i A;subst A;exact(U1 r K I F h4 C D (ah o g h) (ah G x h) R H).done;cases f;rename_i t t' y z;obtain⟨u,v,rfl,o,G⟩:=Rs J;split at f<;>try cases f
 rename_i e hd;rcases hs:bG P e with _|s;simp[hs]at f;simp only[hs,abQ,abz]at f;subst f;simp only[ak]at d;rcases x:evX T z with _|q;simp only[x,Option.bind_none]at d;split at d<;>simp_all;simp only[x,ac2]at d;split at d;rename_i c' new n g S;simp only[abz,abI]at d;obtain⟨rfl,rfl,rfl⟩:=d;exact((Ph r hd hs (ah o g h) (ah G x h) S H).1 rfl).done;rename_i i off m cap Y c' new n g S;split at d<;>try cases d
 rename_i l R;split at d<;>try cases d
 rename_i A;subst A;exact((Ph r hd hs (ah o g h) (ah G x h) S H.1).2 _ _ _ _ _ rfl R H.2.1 H.2.2).done;cases d
 .rename_i t y;obtain⟨u,rfl,o⟩:=Xl J;split at f<;>try cases f
  rotate_left
  rename_i kt et hd;simp only[ak]at d;split at d<;>try cases d
  rename_i g;exact((Pi r hd (ah o g h)).1 rfl).done;rename_i i g;split at d<;>try cases d
  rename_i es ck Z;exact((Pi r hd (ah o g h)).2 _ _ _ rfl Z).done;rename_i e hd;split at f<;>try cases f
  rename_i s B F C;split at f<;>try cases f
  rename_i D;simp only[ak]at d;split at d<;>try cases d
  rename_i g;exact((Nv r hd F C D (ah o g h)).1 rfl).done;rename_i i off m cap Y g;split at d<;>try cases d
  rename_i l R;split at d<;>try cases d
  rename_i A;subst A;exact((Nv r hd F C D (ah o g h)).2 _ _ _ _ _ rfl R H).done
 exact Q rfl;rename_i y z;obtain⟨u,v,rfl,o,G⟩:=Rs J;cases f;simp only[ak]at d;split at d<;>try cases d
 rename_i k m k' n g x;have N:=ah o g h;have O:=ah G x h;simp only[VR]at N O;refine .same r (v:=.int k (if n>m then n else m)) ?_ (by simp[VR]);simp[builtin,Builtin.max_,Builtin.max2,N,O];rename_i y z;obtain⟨u,v,rfl,o,G⟩:=Rs J;cases f;simp only[ak]at d;split at d<;>try cases d
 rename_i k m k' n g x;have N:=ah o g h;have O:=ah G x h;simp only[VR]at N O;refine .same r (v:=.int k (if n<m then n else m)) ?_ (by simp[VR]);simp[builtin,Builtin.min_,Builtin.min2,N,O];cases f
end
open Go Go.MapKept
section
variable {P:Program}{w0:World}{S0:SB}{E:Env}{L:List Blk}{w:World}{T:Tm}{a:Act}
def kZ.desc:kZ->TypeDesc->Prop
 |.int,d=>∃k,d=.int k
 |.str,d=>d=.string
 |.bool,d=>d=.bool
 |.st _,_=>False
def kZ.flat:kZ->Bool
 |.st _=>false
 |_=>true
theorem LE{c:TypeId}{kd:kZ}(h:fu P c=some kd)(b:kd.flat=true):∃d,P.underlying c=some d/\kd.desc d:=by
 unfold fu at h;split at h<;>try simp only[abz,reduceCtorEq]at h
 rename_i k a;subst h;exact⟨_,a,k,rfl⟩;rename_i a;subst h;exact⟨_,a,rfl⟩;rename_i a;subst h;exact⟨_,a,rfl⟩;split at h;simp only[abZ]at h;obtain⟨_,_,rfl⟩:=h;cases b;cases h
theorem Pf{kd:kZ}{d:TypeDesc}{k q:AV}{u v:Value}{b:Bool}(hd:kd.desc d)(c:kd.flat=true)(i:aT kd k=true)(g:VR E k u)(f:VR E q v)(h:xr k q=some b):Instr.sameNow d u v=some b:=by
 cases kd<;>try (cases c;done)
 all_goals cases k<;>simp only[aT,abT]at i<;>cases q<;>simp only[xr,reduceCtorEq]at h<;>simp only[VR]at g f<;>subst g<;>subst f<;>simp only[kZ.desc]at hd
 obtain⟨k,rfl⟩:=hd;split at h<;>simp only[abz,reduceCtorEq]at h;rename_i e;subst e;subst h;simp only[Instr.sameNow,if_true];rfl;subst hd;simp only[abz]at h;subst h;simp only[Instr.sameNow,abz];rename_i a b;by_cases e:a=b;subst e;simp[bytes_beq];simp only[e,decide_false];rcases h':(({data:={toList:=a}}:ByteArray) == {data:={toList:=b}})with _|_;rfl;have:=(bytes_beq _ _).1 h';simp_all;subst hd;simp only[abz]at h;subst h;rfl
theorem UL{kd:kZ}{b:TypeId}{d:TypeDesc}{k:AV}{u:Value}(a:P.underlying b=some d)(hd:kd.desc d)(f:aT kd k=true)(c:VR E k u)(e:Bool)(n:Nat):(Instr.checkKey e (n+1) b u).run P w=.ok () w:=by
 unfold Instr.checkKey;cases kd<;>try (exact hd.elim)
 all_goals cases k<;>simp only[aT,abT]at f<;>simp only[VR]at c<;>subst c<;>simp only[kZ.desc]at hd
 obtain⟨k,rfl⟩:=hd;simp[abF,run_underlying a,Result.andThen];subst hd;simp[abF,run_underlying a,Result.andThen];subst hd;simp[abF,run_underlying a,Result.andThen]
theorem Wx{kd:kZ}{k q:AV}{u v:Value}(a:kd.flat=true)(d:aT kd k=true)(c:VR E k u)(b:VR E q v)(h:xr k q=some true)(n:Nat):Instr.sameBits n v u=true:=by
 cases kd<;>try (cases a;done)
 all_goals cases k<;>simp only[aT,abT]at d<;>cases q<;>simp only[xr,reduceCtorEq]at h<;>simp only[VR]at c b<;>subst c<;>subst b
 split at h<;>simp only[abz,reduceCtorEq,decide_eq_true_eq]at h;rename_i e;subst e;subst h;simp[Instr.sameBits];simp only[abz,decide_eq_true_eq]at h;subst h;simp[Instr.sameBits,bytes_beq];simp only[abz,decide_eq_true_eq]at h;subst h;simp[Instr.sameBits]
theorem Ng{kd:kZ}{d:TypeDesc}{k:AV}{u:Value}(hd:kd.desc d)(a:kd.flat=true)(n:aT kd k=true)(f:VR E k u):∀{es:List (AV×AV×Nat)}{rs:List MapEntry}{i:Nat}{r:Option (Nat×AV)},ay E es rs->bF k es i=some r ->
  match r with
  |none=>Instr.findNow d u rs i=some none
  |some (j,x)=>∃c e q b,j=i+c/\Instr.findNow d u rs i=some (some (i+c,e.val))/\rs[c]?=some e/\es[c]?=some (q,x,b)/\VR E x e.val/\VR E q e.key/\xr k q=some true
 |[],rs,i,r,hm,h=>by simp only[ay]at hm;subst hm;simp only[bF,abz]at h;subst h;rfl
 | (q,x,b)::l,rs,i,r,hm,h=>by
   obtain⟨e,t,rfl,g,w,B,h4⟩:=hm;simp only[bF]at h;split at h
   .rename_i hq;simp only[abz]at h;subst h;have:=Pf hd a n f g hq;exact⟨0,e,q,b,rfl,by simp[Instr.findNow,this],rfl,rfl,w,g,hq⟩
   .rename_i hq;have o:=Pf hd a n f g hq;have m:=Ng hd a n f h4 h;cases r with
    |none=>simp only at m⊢;simp[Instr.findNow,o,m]
    | some p =>
      obtain⟨j,y⟩:=p;obtain⟨c,v,z,A,rfl,g1,s,g3,g4⟩:=m;exact⟨c+1,v,z,A,aeu,by simp[Instr.findNow,o,g1];omega,by simpa using s,by simpa using g3,g4⟩
   .cases h
theorem YL{t:TypeId}{k:yl}(h:Se P t=some k)(e:Bool)(n:Nat)(v:Value)(w:World):(Instr.checkKey e (n+1) t v).run P w=.ok () w:=by unfold Instr.checkKey;rcases Kb h with⟨_,q,a⟩|⟨_,a⟩|⟨_,a⟩<;>simp[abF,run_underlying a,Result.andThen]
theorem Xe{c:TypeId}{a:List yl}{b:Array Field}{cs:Array Value}(p:P.underlying c=some (.struct b))(q:EF P 0 b.toList a)(s:a.length<=cs.size)(e:Bool)(n:Nat)(w:World):
  (Instr.checkKey e (n+2) c (.agg cs)).run P w=.ok () w:=by
 have key:∀ (l:List Field) (a:List yl) (i:Nat),EF P i l a->i+a.length<=cs.size->∀ (body:Field->PUnit->Sem (ForInStep PUnit)),(∀ f u,body f u=if f.name ≠ "_" then (do let x <- part f.type cs f.offset;Instr.checkKey e (n+1) f.type x;pure (ForInStep.yield PUnit.unit)) else pure (ForInStep.yield PUnit.unit))->(forIn l PUnit.unit body).run P w=.ok PUnit.unit w:=by
  intro l;induction l with
  |nil=>intro a i _ _ body _;simp
  | cons f l ih =>
    intro a i h o body g;cases a with
    |nil=>simp[EF]at h
    | cons k a =>
      obtain⟨j,m,d,h4⟩:=h;simp only[abU]at o;obtain⟨v,r⟩:∃v,cs[i]?=some v:=⟨_,acq aeu⟩;rw[List.forIn_cons,g,if_pos m,j];simp only[abF,R7 d r,YL d,abG,ab8]
      grind
 unfold Instr.checkKey;simp only[abF,run_underlying p,abG];have:=key b.toList a 0 q aeu _ (λf u=>rfl);simp_all
theorem LL{c:TypeId}{z:List yl}{v:Array Field}(n:P.underlying c=some (.struct v))(k:P.stoodInHeld c=false)(o:EF P 0 v.toList z){l:List AV}{u:Value}(d:rP z l=true)(f:VR E (.agg l) u)(w:World):∀{es:List (AV×AV×Nat)}{rs:List MapEntry}{i:Nat}{r:Option (Nat×AV)},ay E es rs->bF (.agg l) es i=some r ->
  match r with
  |none=>(Instr.findAsking c u rs i).run P w=.ok none w
  |some (j,x)=>∃a e q b,j=i+a/\(Instr.findAsking c u rs i).run P w=.ok (some (i+a,e.val)) w/\rs[a]?=some e/\es[a]?=some (q,x,b)/\VR E x e.val/\VR E q e.key/\xr (.agg l) q=some true
 |[],rs,i,r,hm,h=>by simp only[ay]at hm;subst hm;simp only[bF,abz]at h;subst h;rfl
 | (q,x,b)::es,rs,i,r,hm,h=>by
   obtain⟨e,t,rfl,g,C,G,h4⟩:=hm;simp only[bF]at h;split at h
   .rename_i hq;simp only[abz]at h;subst h;have:=NJ n k o d f g hq w;exact⟨0,e,q,b,rfl,by simp[Instr.findAsking,this],rfl,rfl,C,g,hq⟩
   .rename_i hq;have s:=NJ n k o d f g hq w;have m:=LL n k o d f w h4 h;cases r with
    |none=>simp only at m⊢;simp[Instr.findAsking,s,m]
    | some p =>
      obtain⟨j,y⟩:=p;obtain⟨a,B,D,F,rfl,g1,A,g3,g4⟩:=m;exact⟨a+1,B,D,F,aeu,by simp[Instr.findAsking,s,g1];omega,by simpa using A,by simpa using g3,g4⟩
   .cases h
theorem Xj:∀{l m:List AV}{f vs:List Value}{d:List yl}(n:Nat),rP d l=true->VRL E l f->VRL E m vs->zQ l m=some true->f.length=vs.length/\((vs.zip f).all λ(x,y)=>Instr.sameBits n x y)=true
 | [],m,f,vs,d,n,hp,hl,hm,hq=>by
   cases m with
   |cons b m=>simp[zQ]at hq
   |nil=>simp only[VRL]at hl hm;subst hl;subst hm;simp
 | a::l,m,f,vs,d,n,hp,hl,hm,hq=>by
   cases m with
   |nil=>simp[zQ]at hq
   | cons b m =>
     cases d with
     |nil=>simp[rP]at hp
     | cons k d =>
       simp only[rP,abH]at hp;obtain⟨u,r,rfl,i,g⟩:=hl;obtain⟨v,o,rfl,j,h⟩:=hm;simp only[zQ]at hq;cases hk:Nl a b with
       |none=>rw[hk]at hq;cases hq
       | some c =>
         rw[hk]at hq;cases c with
         |false=>simp at hq
         | true =>
           obtain⟨q,p⟩:=Xj n hp.2 g h hq;refine⟨by simp[q],?_⟩;simp only[List.zip_cons_cons,ade,p,adg];cases a<;>cases b<;>simp only[Nl,reduceCtorEq]at hk<;>simp only[VR]at i j<;>subst i<;>subst j
           .simp only[abz,decide_eq_true_eq]at hk;subst hk;simp[Instr.sameBits]
           .split at hk<;>simp only[abz,reduceCtorEq,decide_eq_true_eq]at hk;rename_i e;subst e;subst hk;simp[Instr.sameBits]
           .simp only[abz,decide_eq_true_eq]at hk;subst hk;simp[Instr.sameBits,bytes_beq]
theorem lS{kd:kZ}{g:TypeId}{k:AV}{u:Value}(a:fu P g=some kd)(f:aT kd k=true)(h:VR E k u)(e:Bool):(Instr.checkKey e 10000 g u).run P w=.ok () w:=by
 cases hfl:kd.flat with
 | true =>
   obtain⟨d,b,i⟩:=LE a hfl;exact UL b i f h e 9999
 | false =>
   cases kd<;>simp only[kZ.flat,reduceCtorEq]at hfl;obtain⟨m,b,i,j⟩:=Kc a;cases k<;>simp only[aT,abT]at f;obtain⟨l,rfl,c⟩:=h;exact Xe b j (by rw[O4 f];simp[c.length]) e 9998 w
theorem UM{kd:kZ}{k q:AV}{u v:Value}(c:aT kd k=true)(e:VR E k u)(d:VR E q v)(h:xr k q=some true):Instr.sameBits 10000 v u=true:=by
 cases hfl:kd.flat with
 |true=>exact Wx hfl c e d h 10000
 | false =>
   cases kd<;>simp only[kZ.flat,reduceCtorEq]at hfl;cases k<;>simp only[aT,abT]at c;cases q<;>simp only[xr,reduceCtorEq]at h;obtain⟨i,rfl,a⟩:=e;obtain⟨vs,rfl,b⟩:=d;obtain⟨g,f⟩:=Xj 9999 c a b h;simp only[Instr.sameBits,f,adg];simp[g]
theorem xx{kd:kZ}{f:TypeId}{k:AV}{u:Value}(c:fu P f=some kd)(l:aT kd k=true)(n:VR E k u){es:List (AV×AV×Nat)}{rs:List MapEntry}{r:Option (Nat×AV)}(m:ay E es rs)(h:bF k es 0=some r)(w:World):
  match r with
  |none=>(Instr.findKey f u rs).run P w=.ok none w
  |some (j,x)=>∃e q b,(Instr.findKey f u rs).run P w=.ok (some (j,e.val)) w/\rs[j]?=some e/\es[j]?=some (q,x,b)/\VR E x e.val/\VR E q e.key/\xr k q=some true:=by
 cases hfl:kd.flat with
 | true =>
   obtain⟨d,a,g⟩:=LE c hfl;have i:=Ng g hfl l n m h;cases r with
   |none=>exact run_findKey a i
   | some p =>
     obtain⟨j,x⟩:=p;obtain⟨v,e,q,b,rfl,g1,s,g3,g4⟩:=i;exact⟨e,q,b,by have:=run_findKey (P:=P) (w:=w) a g1;exact this,by simpa using s,by simpa using g3,g4⟩
 | false =>
   cases kd<;>simp only[kZ.flat,reduceCtorEq]at hfl;obtain⟨y,a,g,t⟩:=Kc c;cases k<;>simp only[aT,abT]at l;have i:=LL a g t l n w m h;have o:(Instr.findKey f u rs).run P w=(Instr.findAsking f u rs 0).run P w:=by
    simp only[Instr.findKey,abF,run_underlying a,abG];cases rs with
    |nil=>simp[Instr.findNow,Instr.findAsking]
    |cons e rs=>simp[Instr.findNow,Instr.sameNow]
   grind
theorem SA{t b c:TypeId}(a:Rel w0 S0 E L w)(hd:P.underlying t=some (.map b c)):bK P w0 S0 E (L++[.map [] 0]) (.lmap L.length) w (Instr.makeMap t none):=by have:=a.push (.map #[] 0) (.map [] 0) ⟨w.heap.size,0,0⟩ rfl rfl ⟨⟨w.heap.size,0,0⟩,#[],aev,aev,rfl⟩;refine⟨_,.map (some w.heap.size),_,?_,this.1,?_,this.2⟩;rfl;simp only[VR];simp
theorem Qh{t:TypeId}{a:AV}(h:Vr P t=some a):∃v,(∀w,(zeroValue t).run P w=.ok v w)/\VR E a v:=by unfold Vr at h;simp only[adM]at h;obtain⟨v,⟨i,b,c⟩,d⟩:=h;exact⟨v,λw=>by simp[zeroValue,typeInfo,b,c],Nh d⟩
theorem Mo(b:Rel w0 S0 E L w){i:Nat}{es:List (AV×AV×Nat)}{ck:Nat}{u:Value}(a:L[i]?=some (.map es ck))(d:VR E (.lmap i) u):
  ∃c rs,E.loc i=some c/\u=.map (some c.blk)/\w.heap[c.blk]?=some (.map rs ck)/\ay E es rs.toList:=by
 simp only[VR]at d;obtain⟨c',rs,f,e,g⟩:=b.blk i _ a;simp_all
theorem SC{t b f:TypeId}{kd:kZ}{z k:AV}{u v:Value}(ok:Bool)(m:Rel w0 S0 E L w)(hd:P.underlying t=some (.map b f))(a:fu P b=some kd)(l:Vr P f=some z)(h:VR E .nilmap u)(i:aT kd k=true)(g:VR E k v):
  bK P w0 S0 E L (if ok then .tup [z,.bool false]else z) w (Instr.lookup t u v ok):=by
 simp only[VR]at h;subst h;obtain⟨d,n,h4⟩:=Qh (E:=E) l;have j:∀e,(Instr.checkKey e 10000 b v).run P w=.ok () w:=λe=>lS a i g e
 have c:(Instr.findKey b v []).run P w=.ok none w:=xx (E:=E) (es:=[]) (r:=none) a i g (by simp[ay]) (by simp[bF]) w;refine .same m (v:=if ok then .tuple #[d,.bool false]else d) ?_ ?_
 .simp[Instr.lookup,run_underlying hd,j,c,n]
  try (cases ok<;>rfl)
 cases ok;simp[*];simp only[if_true,VR];exact⟨[d,.bool false],rfl,by simp[VRL,VR,h4]⟩
theorem UV{t h A:TypeId}{kd:kZ}{z k av:AV}{u v:Value}{i ck:Nat}{es:List (AV×AV×Nat)}{r:Option (Nat×AV)}(ok:Bool)(m:Rel w0 S0 E L w)(hd:P.underlying t=some (.map h A))(g:fu P h=some kd)(F:Vr P A=some z)(G:L[i]?=some (.map es ck))(H:VR E (.lmap i) u)(y:aT kd k=true)(s:VR E k v)(D:bF k es 0=some r)(f:av=match r with|some (_,x)=>if ok then .tup [x,.bool true]else x|none=>if ok then .tup [z,.bool false]else z):
  bK P w0 S0 E L av w (Instr.lookup t u v ok):=by
 obtain⟨c,rs,J,rfl,C,n⟩:=Mo m G H;obtain⟨l,I,h4⟩:=Qh (E:=E) F;have d:∀e,(Instr.checkKey e 10000 h v).run P w=.ok () w:=λe=>lS g y s e
 have o:(getObj c.blk).run P w=.ok (.map rs ck) w:=by simp[getObj,Sem.run,C]
 have B:=xx g y s n D w;cases r with
 | none =>
   subst f;have a:(Instr.findKey h v rs.toList).run P w=.ok none w:=B;refine .same m (v:=if ok then .tuple #[l,.bool false]else l) ?_ ?_
   .simp[Instr.lookup,run_underlying hd,o,d,a,I]
    try (cases ok<;>rfl)
   .cases ok
    .simp[*]
    .simp only[if_true,VR];exact⟨[l,.bool false],rfl,by simp[VRL,VR,h4]⟩
 | some p =>
   obtain⟨j,x⟩:=p;subst f;obtain⟨e,q,b,a,K,g3,g4,_⟩:=B;refine .same m (v:=if ok then .tuple #[e.val,.bool true]else e.val) ?_ ?_
   .simp[Instr.lookup,run_underlying hd,o,d,a]
    try (cases ok<;>rfl)
   .cases ok
    .simp[*]
    .simp only[if_true,VR];exact⟨[e.val,.bool true],rfl,by simp[VRL,VR,g4]⟩
theorem ay.app{es:List (AV×AV×Nat)}{k x:AV}{e:MapEntry}:∀{rs:List MapEntry},ay E es rs->VR E k e.key->VR E x e.val->ay E (es++[(k,x,e.born)]) (rs++[e]):=by
 induction es with
 |nil=>intro rs h c a;simp only[ay]at h;subst h;exact⟨e,[],rfl,c,a,rfl,rfl⟩
 | cons p es ih =>
   intro rs h c a;obtain⟨q,y,b⟩:=p;obtain⟨f,t,rfl,g1,d,g3,g4⟩:=h;exact⟨f,t++[e],rfl,g1,d,g3,ih g4 c a⟩
theorem ay.put{k x:AV}{u v:Value}(c:VR E k u)(d:VR E x v):∀{es:List (AV×AV×Nat)}{rs:List MapEntry}{j:Nat},ay E es rs->ay E (Sb k x es j) (rs.modify j λe=>{e with key:=u,val:=v})
 |[],rs,j,h=>by simp only[ay]at h;subst h;simp[Sb,ay]
 |(q,y,b)::es,rs,0,h=>by obtain⟨f,t,rfl,g1,a,g3,g4⟩:=h;exact⟨{f with key:=u,val:=v},t,rfl,c,d,g3,g4⟩
 |(q,y,b)::es,rs,j+1,h=>by obtain⟨f,t,rfl,g1,a,g3,g4⟩:=h;exact⟨f,t.modify j λe=>{e with key:=u,val:=v},aev,g1,a,g3,ay.put c d (j:=j) g4⟩
theorem UU{t C U:TypeId}{kd:kZ}{k x:AV}{u v y:Value}{i ck:Nat}{es:List (AV×AV×Nat)}{r:Option (Nat×AV)}(M:Rel w0 S0 E L w)(hd:P.underlying t=some (.map C U))(B:fu P C=some kd)(O:L[i]?=some (.map es ck))(V:VR E (.lmap i) u)(G:aT kd k=true)(n:VR E k v)(K:VR E x y)(Q:bF k es 0=some r):∃w',(Instr.mapUpdate t u v y).run P w=.ok () w'/\Rel w0 S0 E (L.set i (match r with|some (j,_)=>.map (Sb k x es j) ck|none=>.map (es++[(k,x,ck)]) (ck+1))) w':=by
 obtain⟨c,rs,J,rfl,l,h⟩:=Mo M O V;have m:∀e,(Instr.checkKey e 10000 C v).run P w=.ok () w:=λe=>lS B G n e
 have I:(getObj c.blk).run P w=.ok (.map rs ck) w:=by simp[getObj,Sem.run,l]
 have N:=xx B G n h Q w;have H:c.blk<w.heap.size:=(acl.1 l).1;have A:∀o,(setObj c.blk o).run P w=.ok () {w with heap:=w.heap.setIfInBounds c.blk o}:=λo=>by simp[setObj,Sem.run,l]
 have turn:∀d a f,ay E f (d:Array MapEntry).toList->Rel w0 S0 E (L.set i (.map f a)) {w with heap:=w.heap.setIfInBounds c.blk (.map d a)}:=λd a f F =>
  M.turn (w':={w with heap:=w.heap.setIfInBounds c.blk (.map d a)}) (k':=.map f a) O rfl J aev (λb l=>by simp[adr,Ne.symm l]) rfl rfl rfl
   ⟨c,d,J,by simp[H],F⟩ (λ_ _ e=>by cases e)
 cases r with
 | none =>
   have g:(Instr.findKey C v rs.toList).run P w=.ok none w:=N;refine⟨_,?_,turn (rs.push {key:=v,val:=y,born:=ck}) (ck+1) _ (by simpa using ay.app (e:={key:=v,val:=y,born:=ck}) h n K)⟩;simp[Instr.mapUpdate,run_underlying hd,I,m,g,A]
 | some p =>
   obtain⟨j,z⟩:=p;obtain⟨e,q,b,g,R,g3,g4,S,T⟩:=N;have D:(Instr.keyThatStays e.key v).run P w=.ok v w:=by simp[Instr.keyThatStays,UM G n S T]
   have s:rs[j]?=some e:=(by simpa using R);refine⟨_,?_,turn (rs.modify j λe=>{e with key:=v,val:=y}) ck _ (by simpa using ay.put n K (j:=j) h)⟩;simp[Instr.mapUpdate,run_underlying hd,I,m,g,s,D,A]
end
open Go Go.MapKept
section
variable {P:Program}{w0:World}{S0:SB}{E:Env}{L:List Blk}{w:World}{T:Tm}{a:Act}
theorem ay.filt{p:Nat->Bool}:∀{es:List (AV×AV×Nat)}{rs:List MapEntry},ay E es rs->ay E (es.filter λe=>p e.2.2) (rs.filter λe=>p e.born)
 |[],rs,h=>by simp only[ay]at h;subst h;rfl
 | (k,x,b)::es,rs,h=>by
   obtain⟨f,t,rfl,g1,c,g3,g4⟩:=h;have a:=ay.filt (p:=p) g4;subst g3;simp only[List.filter_cons];split
   .exact⟨f,_,rfl,g1,c,rfl,a⟩
   omega
theorem ay.all{p:Nat->Bool}:∀{es:List (AV×AV×Nat)}{rs:List MapEntry},ay E es rs->(rs.all λe=>p e.born)=es.all λe=>p e.2.2
 |[],rs,h=>by simp only[ay]at h;subst h;rfl
 |(k,x,b)::es,rs,h=>by obtain⟨f,t,rfl,g1,a,g3,g4⟩:=h;subst g3;simp only[ade,ay.all (p:=p) g4]
theorem ay.nil_iff{es:List (AV×AV×Nat)}{rs:List MapEntry}(h:ay E es rs):rs.isEmpty=es.isEmpty:=by
 cases es with
 |nil=>simp only[ay]at h;subst h;rfl
 |cons p es=>obtain⟨k,x,b⟩:=p;obtain⟨f,t,rfl,_⟩:=h;rfl
theorem ay.len:∀{es:List (AV×AV×Nat)}{rs:List MapEntry},ay E es rs->rs.length=es.length
 |[],rs,h=>by simp only[ay]at h;subst h;rfl
 |(k,x,b)::es,rs,h=>by obtain⟨f,t,rfl,_,_,_,g4⟩:=h;simp[ay.len g4]
theorem PO{t c d:TypeId}{v:Value}(b:Rel w0 S0 E L w)(hd:P.underlying t=some (.map c d))(a:VR E .nilmap v):
  bK P w0 S0 E (L++[.miter none 0 [] 0]) (.ptr L.length 0) w (Instr.range t v):=by
 simp only[VR]at a;subst a;have:=b.push (.mapIter none 0 #[] 0) (.miter none 0 [] 0) ⟨w.heap.size,0,0⟩ rfl rfl ⟨⟨w.heap.size,0,0⟩,none,aev,aev,rfl,rfl⟩;refine⟨_,.pointer (some ⟨w.heap.size,0,none⟩),_,?_,this.1,?_,this.2⟩;simp[Instr.range,run_underlying hd];simp only[VR];exact⟨⟨w.heap.size,0,0⟩,aev,rfl⟩
theorem Q4{t k h:TypeId}{v:Value}{i ck:Nat}{es:List (AV×AV×Nat)}(a:Rel w0 S0 E L w)(hd:P.underlying t=some (.map k h))(b:L[i]?=some (.map es ck))(g:VR E (.lmap i) v):
  bK P w0 S0 E (L++[.miter (some i) ck [] ck]) (.ptr L.length 0) w (Instr.range t v):=by
 obtain⟨c,rs,f,rfl,e,l⟩:=Mo a b g;have j:i<L.length:=(aby.1 b).1;have:=a.push (.mapIter (some c.blk) ck #[] ck) (.miter (some i) ck [] ck) ⟨w.heap.size,0,0⟩ rfl rfl ⟨⟨w.heap.size,0,0⟩,some c.blk,aev,aev,rfl,c,by simp only;rw[if_neg aeu];exact f,rfl⟩;refine⟨_,.pointer (some ⟨w.heap.size,0,none⟩),_,?_,this.1,?_,this.2⟩;have d:(getObj c.blk).run P w=.ok (.map rs ck) w:=by simp[getObj,Sem.run,e]
 simp[Instr.range,run_underlying hd,d];simp only[VR];exact⟨⟨w.heap.size,0,0⟩,aev,rfl⟩
theorem Sz{t:TypeId}{v:Value}{i j ck a last:Nat}{seen:List Nat}{es:List (AV×AV×Nat)}{r:Option (AV×AV×Nat)}(B:Rel w0 S0 E L w)(N:L[i]?=some (.miter (some j) a seen last))(V:L[j]?=some (.map es ck))(T:VR E (.ptr i 0) v)(y:Wq es a seen last=some r):
  bK P w0 S0 E (O8 L i j a seen ck r) (Jw r) w (Instr.next v false t):=by
 obtain⟨c,D,rfl⟩:=T;obtain⟨c',q,M,F,O,d,h4,rfl⟩:=B.blk i _ N;rw[D]at M;cases M;obtain⟨Y,rs,g1,R,g3⟩:=B.blk j _ V;rw[h4]at g1;cases g1;have J:c.blk<w.heap.size:=(acl.1 F).1;have K:(getObj c.blk).run P w=.ok (.mapIter (some d.blk) a ⟨seen⟩ last) w:=by simp[getObj,Sem.run,F]
 have z:(getObj d.blk).run P w=.ok (.map rs ck) w:=by simp[getObj,Sem.run,R]
 have H:∀o,(setObj c.blk o).run P w=.ok () {w with heap:=w.heap.setIfInBounds c.blk o}:=λo=>by simp[setObj,Sem.run,F]
 rw[O];unfold Wq at y;split at y;simp_all;rename_i C;have g:(!(⟨seen⟩:Array Nat).isEmpty && !rs.isEmpty&&rs.all λe=>decide (e.born≥last))=false:=by
  have e2:rs.isEmpty=es.isEmpty:=(by rw[<- g3.nil_iff];simp);have Z:(rs.all λe=>decide (e.born≥last))=es.all λe=>decide (last<=e.2.2):=by rw[<- ay.all (p:=λb=>decide (last<=b)) g3];simp
  simp[*]
 have u:=ay.filt (p:=λb => !seen.contains b) g3;have m:=ay.filt (p:=λb=>decide (b<a)) u;have n:=ay.filt (p:=λb=>decide (a<=b)) u;have A:∀p:MapEntry->Bool,(rs.filter λe => !(⟨seen⟩:Array Nat).contains e.born).filter p=⟨(rs.toList.filter λe => !seen.contains e.born).filter p⟩:=λp=>by apply Array.toList_inj.1;simp
 split at y;rename_i I G;simp only[abz]at y;subst y;rw[I]at m;rw[G]at n;refine .same B (v:=.tuple #[.bool false]) ?_ (by simp[Jw,VR,VRL]);have h:((rs.filter λe => !(⟨seen⟩:Array Nat).contains e.born).filter λe=>decide (e.born<a))=#[]:=by rw[A,m]
 have l:((rs.filter λe => !(⟨seen⟩:Array Nat).contains e.born).filter λe=>decide (e.born≥a))=#[]:=by rw[A];exact congrArg Array.mk n
 simp only[Instr.next,abF,K,z,abG,g,abT,if_false,h,l];simp[Question.forced];rename_i e I G;simp only[abz]at y;subst y;rw[I]at m;rw[G]at n;obtain⟨k,x,b⟩:=e;obtain⟨f,s,U,S,X,W,rfl⟩:=m;subst W;have h:((rs.filter λe => !(⟨seen⟩:Array Nat).contains e.born).filter λe=>decide (e.born<a))=#[f]:=by rw[A,U]
 have l:((rs.filter λe => !(⟨seen⟩:Array Nat).contains e.born).filter λe=>decide (e.born≥a))=#[]:=by rw[A];exact congrArg Array.mk n
 have turn:=B.turn (w':={w with heap:=w.heap.setIfInBounds c.blk (.mapIter (some d.blk) a ((⟨seen⟩:Array Nat).push f.born) ck)}) (k':=.miter (some j) a (seen++[f.born]) ck) N rfl D aev (λb Q=>by simp[adr,Ne.symm Q]) rfl rfl rfl
  ⟨c,some d.blk,D,by simp[J],O,d,h4,rfl⟩ (λ_ _ e=>by cases e)
 refine⟨E,.tuple #[.bool true,f.key,f.val],_,?_,.refl E,?_,turn⟩;simp only[Instr.next,abF,K,z,abG,g,abT,if_false,h,l];simp[Question.forced,H];exact⟨[.bool true,f.key,f.val],rfl,.bool true,[f.key,f.val],rfl,rfl,f.key,[f.val],rfl,S,f.val,[],rfl,X,rfl⟩;cases y
theorem Q5{t:TypeId}{v:Value}{i a last:Nat}{seen:List Nat}(b:Rel w0 S0 E L w)(j:L[i]?=some (.miter none a seen last))(h:VR E (.ptr i 0) v):
  bK P w0 S0 E L (.tup [.bool false]) w (Instr.next v false t):=by
 obtain⟨c,f,rfl⟩:=h;obtain⟨c',q,d,g,k,h4⟩:=b.blk i _ j;rw[f]at d;cases d;simp only[MIt]at h4;subst h4;have e:(getObj c.blk).run P w=.ok (.mapIter none a ⟨seen⟩ last) w:=by simp[getObj,Sem.run,g]
 rw[k];exact .same b (v:=.tuple #[.bool false]) (by simp[Instr.next,e]) (by simp[VR,VRL])
theorem ay.fnd{b:Nat}:∀{es:List (AV×AV×Nat)}{rs:List MapEntry}{e:AV×AV×Nat},ay E es rs->es.find? (λe=>Nat.beq e.2.2 b)=some e->∃f,rs.find? (λe=>e.born == b)=some f/\VR E e.1 f.key/\VR E e.2.1 f.val
 |[],rs,e,h,he=>by simp at he
 | (k,x,c)::es,rs,e,h,he=>by
   obtain⟨f,t,rfl,g1,d,g3,g4⟩:=h;subst g3;simp only[acE]at he⊢;have a:(f.born == b)=Nat.beq f.born b:=by
    cases hh:Nat.beq f.born b with
    |true=>rw[aec hh];simp
    | false =>
      have:f.born≠b:=λe=>by rw[e,Nat.beq_refl]at hh;cases hh
      simp[*]
   rw[a];split at he
   .grind
   .rename_i hb;exact ay.fnd g4 he
theorem Q6{v:Value}{i j ck g a:Nat}{seen:List Nat}{es:List (AV×AV×Nat)}{e:AV×AV×Nat}(l:Rel w0 S0 E L w)(D:L[i]?=some (.miter (some j) g seen a))(B:L[j]?=some (.map es ck))(A:VR E (.ptr i 0) v)(k:mat es ck seen a=some e):bK P w0 S0 E L (.tup [e.1,e.2.1]) w (Instr.entry v):=by
 obtain⟨c,s,rfl⟩:=A;obtain⟨c',q,p,t,F,d,h4,rfl⟩:=l.blk i _ D;rw[s]at p;cases p;obtain⟨G,rs,g1,y,g3⟩:=l.blk j _ B;rw[h4]at g1;cases g1;have r:(getObj c.blk).run P w=.ok (.mapIter (some d.blk) g ⟨seen⟩ a) w:=by simp[getObj,Sem.run,t]
 have n:(getObj d.blk).run P w=.ok (.map rs ck) w:=by simp[getObj,Sem.run,y]
 unfold mat at k;split at k;rename_i b o;split at k;rename_i m;obtain⟨f,u,x,C⟩:=ay.fnd g3 k;have h:(⟨seen⟩:Array Nat).back?=some b:=by rw[List.getLast?_eq_getElem?]at o;simpa[Array.back?]using o
 have z:rs.find? (λe=>e.born == b)=some f:=by rw[<- u];simp
 rw[F];refine .same l (v:=.tuple #[f.key,f.val]) ?_ (by simp only[VR,VRL];exact⟨[f.key,f.val],rfl,f.key,[f.val],rfl,x,f.val,[],rfl,C,rfl⟩);simp[Instr.entry,r,n,h,m,z];simp_all;simp_all
theorem ay.del:∀{es:List (AV×AV×Nat)}{rs:List MapEntry}{j:Nat},ay E es rs->ay E (es.eraseIdx j) (rs.eraseIdx j)
 |[],rs,j,h=>by simp only[ay]at h;subst h;simp[ay]
 |(k,x,b)::es,rs,0,h=>by obtain⟨f,t,rfl,_,_,_,g4⟩:=h;simpa using g4
 |(k,x,b)::es,rs,j+1,h=>by obtain⟨f,t,rfl,g1,a,g3,g4⟩:=h;exact⟨f,t.eraseIdx j,aev,g1,a,g3,ay.del g4⟩
theorem UW{t x K t' ty:TypeId}{kd:kZ}{k:AV}{u v:Value}{i ck:Nat}{cs:Array Bool}{es:List (AV×AV×Nat)}{r:Option (Nat×AV)}(G:Rel w0 S0 E L w)(hd:P.underlying t=some (.map x K))(s:fu P x=some kd)(I:L[i]?=some (.map es ck))(M:VR E (.lmap i) u)(F:aT kd k=true)(D:VR E k v)(J:bF k es 0=some r):∃w',(builtin .delete ⟨[t,t']⟩ ty cs ⟨[u,v]⟩).run P w=.ok (.value (.tuple #[])) w'/\Rel w0 S0 E (L.set i (match r with|some (j,_)=>.map (es.eraseIdx j) ck|none=>.map es ck)) w':=by
 obtain⟨c,rs,C,rfl,l,h⟩:=Mo G I M;have m:∀e,(Instr.checkKey e 10000 x v).run P w=.ok () w:=λe=>lS s F D e
 have B:(getObj c.blk).run P w=.ok (.map rs ck) w:=by simp[getObj,Sem.run,l]
 have H:=xx s F D h J w;have A:c.blk<w.heap.size:=(acl.1 l).1;have n:∀o,(setObj c.blk o).run P w=.ok () {w with heap:=w.heap.setIfInBounds c.blk o}:=λo=>by simp[setObj,Sem.run,l]
 have turn:∀d a f,ay E f (d:Array MapEntry).toList->Rel w0 S0 E (L.set i (.map f a)) {w with heap:=w.heap.setIfInBounds c.blk (.map d a)}:=λd a f y =>
  G.turn (w':={w with heap:=w.heap.setIfInBounds c.blk (.map d a)}) (k':=.map f a) I rfl C aev (λb l=>by simp[adr,Ne.symm l]) rfl rfl rfl
   ⟨c,d,C,by simp[A],y⟩ (λ_ _ e=>by cases e)
 cases r with
 | none =>
   have g:(Instr.findKey x v rs.toList).run P w=.ok none w:=H;refine⟨_,?_,turn rs ck es h⟩;simp[builtin,Builtin.delete_,run_underlying hd,B,m,g,n]
 | some p =>
   obtain⟨j,z⟩:=p;obtain⟨e,q,b,g,N,g3,g4,O,Q⟩:=H;refine⟨_,?_,turn (rs.eraseIdxIfInBounds j) ck (es.eraseIdx j) (by simpa using ay.del h)⟩;simp[builtin,Builtin.delete_,run_underlying hd,B,m,g,n]
theorem SD{t a f t' ty:TypeId}{kd:kZ}{k:AV}{u v:Value}{cs:Array Bool}(i:Rel w0 S0 E L w)(hd:P.underlying t=some (.map a f))(c:fu P a=some kd)(d:VR E .nilmap u)(g:aT kd k=true)(h:VR E k v):
  (builtin .delete ⟨[t,t']⟩ ty cs ⟨[u,v]⟩).run P w=.ok (.value (.tuple #[])) w:=by
 simp only[VR]at d;subst d;have b:∀e,(Instr.checkKey e 10000 a v).run P w=.ok () w:=λe=>lS c g h e
 simp[builtin,Builtin.delete_,run_underlying hd,b]
theorem X7{own:Nat}{ts:List TypeId}{xs:List Operand}{u:List Opd}{ty:TypeId}{cs:Array Bool}{q:LOp}{c:Prop}{av:AV}{L':List Blk}(o:Rel w0 S0 E L w)(f:TR E T a)(A:mW xs=some u)(d:b9 P own .delete ts u=some q)(b:ak T L q=some (c,av,L')):du P w0 S0 E L' av w (builtin .delete ⟨ts⟩ ty cs ⟨xs.map a.eval⟩):=by
 unfold b9 at d;split at d<;>try (rename_i z;cases z)
 rename_i t t' m k _;obtain⟨x,y,rfl,s,p⟩:=Rs A;split at d<;>try cases d
 rename_i C G hd;rcases h4:fu P C with _|kd<;>simp[h4]at d;subst d;simp only[ak]at b;split at b<;>try cases b
 rename_i B h n;split at b<;>cases b;rename_i l;exact .same o (v:=.tuple #[]) (SD o hd h4 (ah s h f) l (ah p n f)) (by simp[VR,VRL]);rename_i i B h n;split at b<;>try cases b
 rename_i es ck D;split at b<;>try cases b
 rename_i l;have go:=λr e=>UW (P:=P) (t':=t') (ty:=ty) (cs:=cs) (r:=r) o hd h4 D (ah s h f) l (ah p n f) e
 split at b<;>cases b;rename_i j F e;obtain⟨w',g1,g⟩:=go _ e;exact⟨E,.tuple #[],w',.inl g1,.refl E,by simp[VR,VRL],g⟩;rename_i e;obtain⟨w',g1,g⟩:=go _ e;exact⟨E,.tuple #[],w',.inl g1,.refl E,by simp[VR,VRL],g⟩;simp_all
end
section
variable {P:Program}{w0:World}{S0:SB}{E:Env}{L:List Blk}{w:World}{T:Tm}{a:Act}
def LOp.isCall:LOp->Bool
 |.call _ _|.callv _ _=>true
 |_=>false
set_option maxHeartbeats 1000000 in
theorem PU{own:Nat}{o:Oper}{lo:LOp}{c:Prop}{av:AV}{L':List Blk}(hR:Rel w0 S0 E L w)(hT:TR E T a)(hl:j4 P own o.op=some lo)(hnc:lo.isCall=false)(he:ak T L lo=some (c,av,L'))(hc:c):
  du P w0 S0 E L' av w (execOp a.eval o):=by
 obtain⟨dst,op,ty,pos,after,guard⟩:=o;cases op<;>simp only[j4]at hl<;>try cases hl
 case move x =>
  show du P w0 S0 E L' av w (pure (.value (a.eval x)));rcases h1:aY x with _|y<;>simp[h1]at hl;subst hl;simp only[ak]at he;rcases h2:evX T y with _|u<;>simp only[h2,acb,abQ,reduceCtorEq,abz,abI]at he;obtain⟨rfl,rfl,rfl⟩:=he;exact .same hR rfl (ah h1 h2 hT)
 case assign x =>
  show du P w0 S0 E L' av w (pure (.value (a.eval x)));rcases h1:aY x with _|y<;>simp[h1]at hl;subst hl;simp only[ak]at he;rcases h2:evX T y with _|u<;>simp only[h2,acb,abQ,reduceCtorEq,abz,abI]at he;obtain⟨rfl,rfl,rfl⟩:=he;exact .same hR rfl (ah h1 h2 hT)
 case pick x y z =>
  show du P w0 S0 E L' av w (do pure (.value (if <- asBool (a.eval x)then a.eval y else a.eval z)));split at hl<;>try cases hl
  rename_i x' y' z' h1 h2 h3;simp only[ak]at he;split at he<;>try cases he
  all_goals
   rename_i h4;have hx:=ah h1 h4 hT;simp only[VR]at hx
  .rcases h5:evX T y' with _|u<;>simp only[h5,acb,abQ,reduceCtorEq,abz,abI]at he;obtain⟨rfl,rfl,rfl⟩:=he;exact .same hR (by simp[hx,asBool]) (ah h2 h5 hT)
  .rcases h5:evX T z' with _|u<;>simp only[h5,acb,abQ,reduceCtorEq,abz,abI]at he;obtain⟨rfl,rfl,rfl⟩:=he;exact .same hR (by simp[hx,asBool]) (ah h3 h5 hT)
 case alloc t =>
  show du P w0 S0 E L' av w (do pure (.value (<- Instr.alloc t true (.tuple #[]))));rcases h1:zOf P t with _|z<;>simp[h1]at hl;subst hl;simp only[ak,abz,abI]at he;obtain⟨rfl,rfl,rfl⟩:=he;exact(SH hR h1).done
 case box t x =>
  show du P w0 S0 E L' av w (do pure (.value (<- Instr.box t (a.eval x))));rcases h1:aY x with _|y<;>simp[h1]at hl;subst hl;simp only[ak]at he;rcases h2:evX T y with _|u
  .simp[h2]at he
  .simp only[h2,ac2]at he;rcases h3:u.cells? with _|l<;>simp only[h3,reduceCtorEq,abz,abI]at he;obtain⟨rfl,rfl,rfl⟩:=he;exact(LH hR (p9 h3 (ah h1 h2 hT))).done
 case build t ps =>
  show du P w0 S0 E L' av w (do pure (.value (<- Instr.build t (ps.map λ(i,x)=>(i,a.eval x)))));have hps:(ps.map λ(i,x)=>(i,a.eval x))=⟨ps.toList.map λ(i,x)=>(i,a.eval x)⟩:=(by apply Array.ext';simp);rw[hps];split at hl<;>try cases hl
  rename_i d z hd hz;split at hl<;>try cases hl
  .rename_i fs;split at hl<;>try cases hl
   rename_i hk;rcases hm:fJ P (.struct fs) ps.toList with _|m<;>simp only[hm,acb,abQ,reduceCtorEq,abz]at hl;subst hl;simp only[ak]at he;rcases hf:kN T z m with _|l<;>simp only[hf,acb,abQ,reduceCtorEq,abz,abI]at he;obtain⟨rfl,rfl,rfl⟩:=he;exact(Q7 hT hR hd hz hk hm hf).done
  .rename_i n e;split at hl<;>try cases hl
   rename_i hs;rcases hm:fJ P (.array n e) ps.toList with _|m<;>simp only[hm,acb,abQ,reduceCtorEq,abz]at hl;subst hl;simp only[ak]at he;rcases hf:kN T z m with _|l<;>simp only[hf,acb,abQ,reduceCtorEq,abz,abI]at he;obtain⟨rfl,rfl,rfl⟩:=he;exact(Q8 hT hR hd hz hm hs hf).done
 case buildSlice t n ps =>
  show du P w0 S0 E L' av w (do pure (.value (<- Instr.buildSlice t n (ps.map λ(i,x)=>(i,a.eval x)))));have hps:(ps.map λ(i,x)=>(i,a.eval x))=⟨ps.toList.map λ(i,x)=>(i,a.eval x)⟩:=(by apply Array.ext';simp);rw[hps];split at hl<;>try cases hl
  rename_i e hd;split at hl<;>try cases hl
  rename_i s z m hs hz hm;split at hl<;>try cases hl
  rename_i hk;simp only[ak]at he;rcases hf:kN T (cX z n) m with _|l<;>simp only[hf,reduceCtorEq]at he;have:=Q9 (own:=own == 2) hT hR hd hs hz hk.1 hk.2 hm hf;split at he<;>simp only[abz,abI]at he<;>obtain⟨rfl,rfl,rfl⟩:=he
  .rename_i ho;rw[if_pos ho]at this;exact this.done
  .rename_i ho;rw[if_neg ho]at this;exact this.done
 case load t x =>
  split at hl<;>try cases hl
  rename_i g s y h1 h2 h3;exact VP hR hT h1 h2 h3 he hc
 case store t x y =>
  split at hl<;>try cases hl
  rename_i s p q h1 h2 h3;exact Uk hR hT h1 h2 h3 he hc
 case nilCheck x =>
  rcases h1:aY x with _|y<;>simp[h1]at hl;subst hl;simp only[ak]at he;split at he<;>try cases he
  all_goals
   rename_i h2;have hx:=j5 hR h1 h2 hT
  .have hx':=hx;obtain⟨p,hp⟩:=hx'.ptr_shape;exact .same hR (by simp[execOp,hp]) hx
  .have hx':=hx;obtain⟨p,hp⟩:=hx'.iptr_shape;exact .same hR (by simp[execOp,hp]) hx
  .have hx':=hx;obtain⟨p,hp⟩:=hx'.iface_shape;exact .same hR (by simp[execOp,hp]) hx
  .have hx':=hx;obtain⟨p,hp⟩:=hx'.func_shape;exact .same hR (by simp[execOp,hp]) hx
 case binOp op t x y u=>exact X9 (u:=u) hR hT hl he hc
 case unOp op t x =>
  show du P w0 S0 E L' av w (do pure (.value (<- Op.unary op (a.eval x))));rcases h1:aY x with _|y<;>simp[h1]at hl;subst hl;simp only[ak]at he;split at he<;>try cases he
  rename_i u h2;rcases h3:un op u with _|r<;>simp only[h3,acb,abQ,reduceCtorEq,abz,abI]at he;obtain⟨rfl,rfl,rfl⟩:=he;exact(YB hR (ah h1 h2 hT) h3).done
 case convert s d x =>
  rcases h1:aY x with _|y
  .simp[h1]at hl
  .simp only[h1,ac2]at hl;exact VQ hR hT h1 hl he hc
 case makeInterface t x =>
  show du P w0 S0 E L' av w (do pure (.value (<- Instr.makeInterface t (a.eval x))));split at hl<;>try cases hl
  rename_i d hni hd;rcases h1:aY x with _|y<;>simp only[h1,acb,abQ,reduceCtorEq,abz]at hl;subst hl;simp only[ak]at he;rcases h2:evX T y with _|u<;>simp only[h2,acb,abQ,reduceCtorEq,abz,abI]at he;obtain⟨rfl,rfl,rfl⟩:=he;refine .same hR (v:=.iface t (a.eval x)) ?_ ⟨_,rfl,ah h1 h2 hT⟩;simp only[Instr.makeInterface,abF,run_underlying hd,abG];cases d<;>first|rfl|exact absurd hd (hni _)
 case makeFunc fn first caps =>
  show du P w0 S0 E L' av w (do pure (.value (<- Instr.makeFunc fn (first.map a.eval) (caps.map a.eval))));split at hl<;>try cases hl
  rename_i f;split at hl<;>try cases hl
  rename_i hfirst;rcases h1:mW caps.toList with _|ys<;>simp only[h1,acb,abQ,reduceCtorEq,abz]at hl;subst hl;simp only[ak]at he;rcases h2:iI T ys with _|l<;>simp only[h2,acb,abQ,reduceCtorEq,abz,abI]at he;obtain⟨rfl,rfl,rfl⟩:=he;have hf:first=#[]:=by simpa using hfirst
  subst hf;refine .same hR (v:=.func (.func f) #[] (caps.map a.eval)) (by simp[Instr.makeFunc]) ⟨caps.toList.map a.eval,?_,rU h1 h2 hT⟩;congr 1;apply Array.ext';simp
 case makeSlice t l c' =>
  show du P w0 S0 E L' av w (do pure (.value (<- Instr.makeSlice t (a.eval l) (a.eval c'))));split at hl<;>try cases hl
  rename_i e hd;split at hl<;>try cases hl
  rename_i s b z l' c'' hs hb hz h1 h2;split at hl<;>try cases hl
  rename_i hk;simp only[ak]at he;split at he<;>try cases he
  rename_i k1 n k2 m h3 h4;have e1:=ah h1 h3 hT;have e2:=ah h2 h4 hT;simp only[VR]at e1 e2;rw[e1,e2];exact(PP hR hd hs hb hz hk.1 hc.1 hc.2.1 hc.2.2.1 hc.2.2.2).done
 case slice t x lo' hi mx =>
  split at hl<;>try cases hl
  .rename_i x' lo'' hi' hd h1 h2 h3 h4;have hmx:mx=none:=by
    cases mx with
    |none=>rfl
    |some m=>simp[uV]at h4
   subst hmx;show du P w0 S0 E L' av w (do pure (.value (<- Instr.sliceAt t (a.eval x) (lo'.map a.eval) (hi.map a.eval) none)));simp only[ak]at he;split at he<;>try cases he
   rename_i s r1 r2 h5 h6 h7;exact(WL hR hd (ah h1 h5 hT) (cW hT h2 h6) (cW hT h3 h7) hc.1 hc.2.1 hc.2.2).done
  .rename_i e x' lo'' hi' mx' hd h1 h2 h3 h4;rcases hs:bG P e with _|s<;>simp only[hs,acb,abQ,reduceCtorEq,abz]at hl;subst hl;exact X4 hR hT hd hs h1 h2 h3 h4 he hc
  .rename_i n e x' lo'' hi' hd h1 h2 h3 h4;rcases hs:bG P e with _|s<;>simp only[hs,acb,abQ,reduceCtorEq,abz]at hl;subst hl;have hmx:mx=none:=by
    cases mx with
    |none=>rfl
    |some m=>simp[uV]at h4
   subst hmx;exact X5 hR hT hd hs h1 h2 h3 he hc
 case fieldAddr t x f =>
  split at hl<;>try cases hl
  rename_i fs x' hd h1;split at hl<;>try cases hl
  rename_i fd hf;split at hl<;>try cases hl
  rename_i hz;exact Un hR hT hd hf hz h1 he
 case field t x f =>
  split at hl<;>try cases hl
  rename_i fs x' hd h1;split at hl<;>try cases hl
  rename_i fd hf;split at hl<;>try cases hl
  rename_i g s hg hs;exact Um hR hT hd hf hg hs h1 he hc
 case indexAddr t x i =>
  split at hl<;>try cases hl
  .rename_i e x' i' hd h1 h2;rcases hs:bG P e with _|s<;>simp only[hs,acb,abQ,reduceCtorEq,abz]at hl;subst hl;exact Ul hR hT hd hs h1 h2 he hc
  .rename_i n e x' i' hd h1 h2;rcases hs:bG P e with _|s<;>simp only[hs,acb,abQ,reduceCtorEq,abz]at hl;subst hl;exact RW hR hT hd hs h1 h2 he hc
 case index t x i =>
  show du P w0 S0 E L' av w (do pure (.value (<- Instr.index t (a.eval x) (a.eval i))));split at hl<;>try cases hl
  rename_i x' i' hd h1 h2;simp only[ak]at he;split at he<;>try cases he
  rename_i s k n h3 h4;have e2:=ah h2 h4 hT;simp only[VR]at e2;rw[e2];exact(UX hR hd (ah h1 h3 hT) hc.1 hc.2).done
 case extract x i =>
  show du P w0 S0 E L' av w (do pure (.value (<- Instr.extract (a.eval x) i)));rcases h1:aY x with _|y<;>simp[h1]at hl;subst hl;simp only[ak]at he;split at he<;>try cases he
  rename_i l h2;rcases h3:l[i]? with _|u<;>simp only[h3,acb,abQ,reduceCtorEq,abz,abI]at he;obtain⟨rfl,rfl,rfl⟩:=he;exact(PQ hR (ah h1 h2 hT) h3).done
 case makeMap t r =>
  show du P w0 S0 E L' av w (do pure (.value (<- Instr.makeMap t (r.map a.eval))));cases r with
  |some x=>simp at hl
  | none =>
    simp only at hl;split at hl<;>try cases hl
    rename_i kt et hd;simp only[ak,abz,abI]at he;obtain⟨rfl,rfl,rfl⟩:=he;exact(SA hR hd).done
 case lookup t m k ok =>
  show du P w0 S0 E L' av w (do pure (.value (<- Instr.lookup t (a.eval m) (a.eval k) ok)));split at hl<;>try cases hl
  rename_i kt et m' k' hd h1 h2;split at hl<;>try cases hl
  rename_i kd z h3 h4;simp only[ak]at he;split at he<;>try cases he
  .rename_i kv h5 h6;split at he<;>cases he;rename_i hf;exact(SC ok hR hd h3 h4 (ah h1 h5 hT) hf (ah h2 h6 hT)).done
  .rename_i i kv h5 h6;split at he<;>try cases he
   rename_i es ck h7;split at he<;>try cases he
   rename_i hf;have go:=λr av hm hav=>(UV (P:=P) (r:=r) (av:=av) ok hR hd h3 h4 h7 (ah h1 h5 hT) hf (ah h2 h6 hT) hm hav).done
   split at he<;>cases he
   .rename_i j v hm;exact go _ _ hm rfl
   .rename_i hm;exact go _ _ hm rfl
 case mapUpdate t m k v =>
  show du P w0 S0 E L' av w (do Instr.mapUpdate t (a.eval m) (a.eval k) (a.eval v);pure .skip);split at hl<;>try cases hl
  rename_i kt et m' k' v' hd h1 h2 h3;rcases h4:fu P kt with _|kd<;>simp[h4]at hl;subst hl;simp only[ak]at he;split at he<;>try cases he
  rename_i i kv x h5 h6 h7;split at he<;>try cases he
  rename_i es ck h8;split at he<;>try cases he
  rename_i hf;have go:=λr hm=>UU (P:=P) (r:=r) hR hd h4 h8 (ah h1 h5 hT) hf (ah h2 h6 hT) (ah h3 h7 hT) hm
  split at he<;>cases he
  .rename_i j y hm;obtain⟨w',g1,g2⟩:=go _ hm;exact⟨E,undef,w',.inr ⟨by simp[g1],rfl⟩,.refl E,by simp[VR],g2⟩
  .rename_i hm;obtain⟨w',g1,g2⟩:=go _ hm;exact⟨E,undef,w',.inr ⟨by simp[g1],rfl⟩,.refl E,by simp[VR],g2⟩
 case range t x =>
  show du P w0 S0 E L' av w (do pure (.value (<- Instr.range t (a.eval x))));split at hl<;>try cases hl
  .rename_i hd;rcases h1:aY x with _|y<;>simp[h1]at hl;subst hl;simp only[ak]at he;split at he<;>try cases he
   rename_i s h2;exact(Q3 hR hd (ah h1 h2 hT)).done
  .rename_i kt et hd;rcases h1:aY x with _|y<;>simp[h1]at hl;subst hl;simp only[ak]at he;split at he<;>try cases he
   .rename_i h2;exact(PO hR hd (ah h1 h2 hT)).done
   .rename_i i h2;split at he<;>cases he;rename_i es ck h3;exact(Q4 hR hd h3 (ah h1 h2 hT)).done
 case entry x =>
  show du P w0 S0 E L' av w (do pure (.value (<- Instr.entry (a.eval x))));rcases h1:aY x with _|y<;>simp[h1]at hl;subst hl;simp only[ak]at he;split at he<;>try cases he
  rename_i i h2;split at he<;>try cases he
  rename_i j since seen st h3;split at he<;>try cases he
  rename_i es ck h4;split at he<;>cases he;rename_i e h5;exact(Q6 hR h3 h4 (ah h1 h2 hT) h5).done
 case next x isS =>
  show du P w0 S0 E L' av w (do pure (.value (<- Instr.next (a.eval x) isS ty)));by_cases hS:isS=true
  case neg =>
   rw[if_neg hS]at hl;have hS':isS=false:=(by simpa using hS);subst hS';rcases h1:aY x with _|y<;>simp[h1]at hl;subst hl;simp only[ak]at he;split at he<;>try cases he
   rename_i i h2;split at he<;>try cases he
   .rename_i h3;exact(Q5 hR h3 (ah h1 h2 hT)).done
   .rename_i j since seen last h3;split at he<;>try cases he
    rename_i es ck h4;split at he<;>cases he;rename_i r h5;exact(Sz hR h3 h4 (ah h1 h2 hT) h5).done
  rw[if_pos hS]at hl;subst hS;rcases h1:aY x with _|y<;>simp[h1]at hl;subst hl;simp only[ak]at he;split at he<;>try cases he
  rename_i i h2;split at he<;>try cases he
  rename_i s p h3;have key:=Sy (P:=P) (t:=ty) hR h3 (ah h1 h2 hT);split at he<;>cases he
  .rename_i hp;rw[if_pos hp,if_pos hp]at key;exact key.done
  .rename_i hp;rw[if_neg hp,if_neg hp]at key;exact key.done
 case call c' =>
  obtain⟨callee,args,ats⟩:=c';split at hl<;>try cases hl
  rename_i xs hx;split at hl<;>try cases hl
  .simp[LOp.isCall]at hnc
  .rename_i x _ _;rcases h1:aY x with _|y<;>simp only[h1,acb,abQ,reduceCtorEq,abz]at hl;subst hl;simp[LOp.isCall]at hnc
  .rename_i b hb;simp only at hb hx hl;subst hb;have:execOp a.eval {dst,op:=.call {callee:=.builtin b,args,argTypes:=ats},type:=ty,pos,after,guard}=builtin b ⟨ats.toList⟩ ty (args.map λ|.const _=>true|_=>false) ⟨args.toList.map a.eval⟩:=by simp only[execOp,resolve,pure_bind,invoke];congr 1;apply Array.ext';simp
   rw[this];exact Qn hR hT hx hl he hc λe=>by subst e;exact X7 hR hT hx hl he
end
structure aj where
 dst:Option Nat
 op:LOp
 guard:Option (Nat×Bool)
 deriving Inhabited
def bz(dst:Option Nat)(v:AV)(T:Tm):Tm :=
 match dst with
 |some d=>(d,v)::T
 |none=>T
def fm(r:Option Nat):Fence:={fn:=λ_=>True,depth:=none,alive:=false,round:=r}
theorem N2{P:Program}{args:Array Value}{w:World}{R:Ending->World->Prop}(r:Option Nat)(n:Nat)(h:Calls P f args w R):CallsIn (fm r) n P f args w R:=by have a:CallsIn Fence.wide n P f args w R:=callsIn_wide.2 h;cases r<;>exact a
theorem Qs{P:Program}{n l:Nat}{tmps:Array Value}{ca cb:Code}{w:World}{R:Ending->World->Prop}(r:Option Nat)(h:RoundIn (fm none) n P l f tmps ca cb w R):RoundIn (fm r) n P l f tmps ca cb w R:=by cases r<;>exact h
def OL(P:Program)(i:Nat)(args:List AV)(L:List Blk)(Q:AV->List Blk->Prop):Prop :=
 ∀(w0:World) (S0:SB) (E:Env) (w:World) (vs:List Value),Rel w0 S0 E L w->VRL E args vs->∀c,E.loc i=some c ->
  ∃fn tmps ca cb,(Instr.yield c.blk ⟨vs⟩).run P w=.ok (.round c.blk fn tmps ca cb) w/\RoundIn (fm none) 0 P c.blk fn tmps ca cb w λe w'=>∃E' v av L',e=.returned v/\E.le E'/\Q av L'/\VR E' av v/\Rel w0 S0 E' L' w'
theorem OL.mono{P:Program}{L:List Blk}{Q f:AV->List Blk->Prop}(h:OL P i args L Q)(g:∀av L',Q av L'->f av L'):OL P i args L f:=by intro w0 S0 E w vs k n c j;obtain⟨fn,tmps,ca,cb,l,m⟩:=h w0 S0 E w vs k n c j;exact⟨fn,tmps,ca,cb,l,m.mono λe w' ⟨E',v,av,L',a,b,c,d⟩=>⟨E',v,av,L',a,b,g _ _ c,d⟩⟩
def ac(P:Program)(f:FuncId)(args:List AV)(L:List Blk)(Q:AV->List Blk->Prop):Prop :=
 ∀(w0:World) (S0:SB) (E:Env) (w:World) (vs:List Value),Rel w0 S0 E L w->VRL E args vs ->
  ((callFunc f ⟨vs⟩).run P w=.ok (.enter f ⟨vs⟩) w/\Calls P f ⟨vs⟩ w λe w'=>∃E' v av L',e=.returned v/\E.le E'/\Q av L'/\VR E' av v/\Rel w0 S0 E' L' w') \/
  (∃E' v av L' w',(callFunc f ⟨vs⟩).run P w=.ok (.value v) w'/\E.le E'/\Q av L'/\VR E' av v/\Rel w0 S0 E' L' w')
theorem ac.mono{P:Program}{L:List Blk}{Q g:AV->List Blk->Prop}(h:ac P f args L Q)(k:∀av L',Q av L'->g av L'):ac P f args L g:=by
 intro w0 S0 E w vs l m;rcases h w0 S0 E w vs l m with⟨i,j⟩|⟨E',v,av,L',w',i,j,n,h4⟩;exact .inl ⟨i,j.mono λe w' ⟨E',v,av,L',a,b,c,d⟩=>⟨E',v,av,L',a,b,k _ _ c,d⟩⟩
 grind
def Res(K:Tm->List Blk->Prop)(d:Option Nat)(T:Tm):Option (Prop×AV×List Blk)->Prop
 |some (c,av,L')=>c/\K (bz d av T) L'
 |none=>False
theorem Xs{T:Tm}{c:Prop}{av:AV}{L':List Blk}:Res K d T (some (c,av,L'))=(c/\K (bz d av T) L'):=rfl
def Kon(K:Tm->List Blk->Prop)(d:Option Nat)(T:Tm):AV->List Blk->Prop:=λav L'=>K (bz d av T) L'
def Cal(P:Program)(f:FuncId)(K:Tm->List Blk->Prop)(d:Option Nat)(T:Tm)(L:List Blk):Option (List AV)->Prop
 |some args=>ac P f args L (Kon K d T)
 |none=>False
theorem XC{P:Program}{T:Tm}{L:List Blk}:Cal P f K d T L (some args)=ac P f args L (Kon K d T):=rfl
def Vo(P:Program)(K:Tm->List Blk->Prop)(d:Option Nat)(T:Tm)(L:List Blk):Option AV->Option (List AV)->Prop
 |some (.func g caps),some args=>ac P g (args++caps) L (Kon K d T)
 |some (.yld i),some args=>OL P i args L (Kon K d T)
 |_,_=>False
theorem Oo{P:Program}{T:Tm}{L:List Blk}:Vo P K d T L (some (.yld i)) (some args)=OL P i args L (Kon K d T):=rfl
theorem Vn{P:Program}{T:Tm}{L:List Blk}{g:FuncId}{caps:List AV}:Vo P K d T L (some (.func g caps)) (some args)=ac P g (args++caps) L (Kon K d T):=rfl
def AOp(P:Program)(o:aj)(K:Tm->List Blk->Prop)(T:Tm)(L:List Blk):Prop :=
 match o.op with
 |.call f xs=>Cal P f K o.dst T L (iI T xs)
 |.callv f xs=>Vo P K o.dst T L (evX T f) (iI T xs)
 |lo=>Res K o.dst T (ak T L lo)
def Grd(P:Program)(o:aj)(K:Tm->List Blk->Prop)(b:Bool)(T:Tm)(L:List Blk):Option AV->Prop
 |some (.bool x)=>if x=b then AOp P o K T L else K (bz o.dst (.tup []) T) L
 |some (.tup [])=>K (bz o.dst (.tup []) T) L
 |_=>False
theorem xI{P:Program}{o:aj}{x:Bool}{T:Tm}{L:List Blk}:Grd P o K b T L (some (.bool x))=if x=b then AOp P o K T L else K (bz o.dst (.tup []) T) L:=rfl
theorem Qc{P:Program}{o:aj}{T:Tm}{L:List Blk}:Grd P o K b T L (some (.tup []))=K (bz o.dst (.tup []) T) L:=rfl
def ma(P:Program)(K:Tm->List Blk->Prop):List aj->Tm->List Blk->Prop
 |[],T,L=>K T L
 | o::rest,T,L=>match o.guard with
   |none=>AOp P o (ma P K rest) T L
   |some (t,b)=>Grd P o (ma P K rest) b T L (aq T t)
theorem XH{P:Program}{T:Tm}{L:List Blk}:ma P K [] T L=K T L:=rfl
theorem Vp{P:Program}{op:LOp}{rest:List aj}{T:Tm}{L:List Blk}:ma P K (⟨d,op,none⟩::rest) T L=AOp P ⟨d,op,none⟩ (ma P K rest) T L:=rfl
theorem S6{P:Program}{op:LOp}{rest:List aj}{T:Tm}{L:List Blk}:ma P K (⟨d,op,some (t,b)⟩::rest) T L=Grd P ⟨d,op,some (t,b)⟩ (ma P K rest) b T L (aq T t):=rfl
def Zn(N:Nat):Option Nat->Bool
 |some d=>decide (d<N)
 |none=>true
def me(P:Program)(N:Nat)(own:Nat->Nat)(ops:Array Oper)(i:Nat):Option aj :=
 match ops[i]? with
 |none=>none
 | some o=>match (j4 P (own i) o.op).getD .bad with
   | lo =>
     if Zn N o.dst=true then
      match o.guard with
      |none=>some ⟨o.dst,lo,none⟩
      | some (j,b)=>match (ops[j]?).bind (·.dst) with
        |some t=>if t<N then some ⟨o.dst,lo,some (t,b)⟩else none
        |none=>none
     else none
def bm(P:Program)(N:Nat)(own:Nat->Nat)(ops:Array Oper):List Nat->Option (List aj)
 |[]=>some []
 | i::l=>match me P N own ops i,bm P N own ops l with
   |some o,some m=>some (o::m)
   |_,_=>none
section
variable {P:Program}{w0:World}{S0:SB}{N:Nat}
theorem MP(a:Act)(d:Option Nat)(v:Value):(a.put d v).tmps.size=a.tmps.size:=by cases d<;>simp[Act.put]
theorem Hb(a:Act)(d:Option Nat)(v:Value):(a.put d v).defers=a.defers:=by cases d<;>simp[Act.put]
theorem TR.putT{E:Env}{T:Tm}{a:Act}{d:Option Nat}{x:AV}{v:Value}(r:TR E T a)(hd:∀k,d=some k->k<a.tmps.size)(b:VR E x v):TR E (bz d x T) (a.put d v):=by
 cases d with
 |none=>exact r
 |some k=>exact r.put (hd k rfl) b
def mkD(D:Nat):Deferred:={target:=.collected D,args:=#[]}
def RD(w0:World)(S0:SB)(ds:List Deferred):Prop:=S0.B<=w0.heap.size/\ds.Nodup/\∀d∈ds,∃D,d=mkD D/\S0.B<=D/\D<w0.heap.size/\¬S0 D/\w0.heap[D]?=some (.deferred (some []))
theorem RD.nil{w0:World}{S0:SB}(h:S0.B<=w0.heap.size):RD w0 S0 []:=⟨h,adt,λ_ h=>by cases h⟩
def St(w0:World)(S0:SB)(N:Nat)(E:Env)(T:Tm)(L:List Blk)(a:Act)(w:World):Prop :=
 Rel w0 S0 E L w/\TR E T a/\a.tmps.size=N/\RD w0 S0 a.defers
theorem Sh{own:Nat}{s d:TypeId}{x:Opd}{a:LOp}(h:xQ P own s d x=some a):a.isCall=false:=by
 unfold xQ at h
 repeat' split at h
 all_goals (first|(cases h;rfl)|cases h)
theorem UI{op:BinOp}{t:TypeId}{x y:Operand}{a:LOp}(h:Hd P op t x y=some a):a.isCall=false:=by
 unfold Hd at h
 repeat' split at h
 all_goals (first|(cases h;rfl)|cases h)
theorem Ox{own:Nat}{b:Builtin}{ts:List TypeId}{xs:List Opd}{a:LOp}(h:b9 P own b ts xs=some a):a.isCall=false:=by
 unfold b9 at h
 repeat' split at h
 all_goals (first|(cases h;rfl)|cases h|(simp only[abZ]at h;obtain⟨_,_,rfl⟩:=h;rfl))
theorem Ws{own:Nat}{op:Op}{lo:LOp}(h:j4 P own op=some lo)(hc:∀c,op≠.call c):lo.isCall=false:=by
 cases op
 case makeMap t r =>
  cases r with
  |some x=>simp[j4]at h
  | none =>
    simp only[j4]at h;split at h<;>cases h;rfl
 all_goals (simp only[j4]at h;try (cases h;done))
 case call c=>exact absurd rfl (hc c)
 case binOp=>exact UI h
 case convert x=>simp only[adM]at h;obtain⟨_,_,h⟩:=h;exact Sh h
 all_goals
  repeat' split at h
  all_goals (first|(cases h;rfl)|cases h|(simp only[abZ]at h;obtain⟨_,_,rfl⟩:=h;rfl))
theorem ET{own:Nat}{o:Oper}{lo:LOp}{gd:Option (Nat×Bool)}(hl':(j4 P own o.op).getD .bad=lo)(hd:∀d,o.dst=some d->d<N){T:Tm}{L:List Blk}{E:Env}{a:Act}{w:World}{K:Tm->List Blk->Prop}(hst:St w0 S0 N E T L a w)(h:AOp P ⟨o.dst,lo,gd⟩ K T L){next:Act->World->Prop}{Q:Exit->Act->World->Prop}(hK:∀E' T' L' a' w',E.le E'->K T' L'->St w0 S0 N E' T' L' a' w'->next a' w'){r:Option Nat}:o.wpIn (fm r) 0 P a w next Q:=by
 have hl:j4 P own o.op=some lo:=by rcases hq:j4 P own o.op with _|x;rw[hq]at hl';simp only[Option.getD_none]at hl';subst hl';exact h.elim;simp_all
 obtain⟨hR,hT,hN,hdf⟩:=hst;have hnd:∀c,o.op≠.defer c:=λc e=>by rw[e]at hl;simp[j4]at hl
 refine⟨λ_ _=>trivial,?_⟩;rw[Oper.semAt_plain _ _ _ hnd];have value:∀{E':Env}{v:Value}{av:AV}{L':List Blk}{w':World},E.le E'->VR E' av v->Rel w0 S0 E' L' w'->K (bz o.dst av T) L'->next (a.put o.dst v) w':=λ{E' v av L' w'} h1 h2 h3 h4 =>
  hK E' _ _ _ _ h1 h4 ⟨h3,(hT.mono h1).putT (λk hk=>by rw[hN];exact hd k hk) h2,by rw[MP];exact hN,by rw[Hb];exact hdf⟩
 have called:∀{f:FuncId}{vs:List Value}{args:List AV},((execOp a.eval o).run P w=(callFunc f ⟨vs⟩).run P w)->VRL E args vs->ac P f args L (Kon K o.dst T)->o.uponIn (fm r) 0 P a next Q ((execOp a.eval o).run P w):=λ{f vs args} hrun hv hc=>by rw[hrun];rcases hc w0 S0 E w vs hR hv with⟨h1,h2⟩|⟨E',v,av,L',w',h1,h2,h3,h4,h5⟩;rw[h1,Oper.uponIn_enter];refine⟨λh=>(by cases h),(N2 r _ h2).mono λe w' ⟨E',v,av,L',e1,h3,h4,h5,h6⟩=>?_⟩;subst e1;exact value h3 h5 h6 h4;rw[h1,Oper.uponIn_value];exact value h2 h4 h5 h3
 by_cases hcall:lo.isCall=true
 .obtain⟨d0,op,ty,pos,after,guard⟩:=o;by_cases hop:∃c,op=.call c
  .obtain⟨⟨callee,args,ats⟩,rfl⟩:=hop;simp only[j4]at hl;split at hl<;>try cases hl
   rename_i xs hx;split at hl<;>try cases hl
   rename_i f;simp only[AOp]at h;rcases hev:iI T xs with _|l;rw[hev]at h;exact h.elim;rw[hev]at h;refine called (vs:=args.toList.map a.eval) ?_ (rU hx hev hT) h;rw[execOp_call_go];congr 2
   grind
   .rename_i x _;rcases h1:aY x with _|y<;>simp only[h1,acb,abQ,reduceCtorEq,abz]at hl;subst hl;simp only[AOp]at h;rcases hev:evX T y with _|u;rw[hev]at h;exact h.elim;rcases hevs:iI T xs with _|l;rw[hev,hevs]at h;cases u<;>exact h.elim;rw[hev,hevs]at h;cases u<;>simp only[Vo]at h
    case yld i =>
     have hx':=ah h1 hev hT;simp only[VR]at hx';obtain⟨c,hc,hfv⟩:=hx';have hrun:(execOp a.eval {dst:=d0,op:=.call {callee:=.value x,args,argTypes:=ats},type:=ty,pos,after,guard}).run P w=(Instr.yield c.blk (args.map a.eval)).run P w:=by simp only[execOp,resolve,hfv,Deferred.ofValue,pure_bind,invoke];simp
     have hargs:(⟨args.toList.map a.eval⟩:Array Value)=args.map a.eval:=(by apply Array.ext';simp);obtain⟨fn,tmps,ca,cb,k1,k2⟩:=h w0 S0 E w _ hR (rU hx hevs hT) c hc;rw[hrun,<- hargs,k1,Oper.uponIn_round];refine⟨λh=>(by cases h),(Qs r k2).mono λe w' ⟨E',v,av,L',e1,h3,h4,h5,h6⟩=>?_⟩;subst e1;exact value h3 h5 h6 h4
    rename_i g caps;have hx':=ah h1 hev hT;simp only[VR]at hx';obtain⟨cs,hfv,hcs⟩:=hx';refine called (vs:=args.toList.map a.eval++cs) ?_ ((rU hx hevs hT).append hcs) h;have:execOp a.eval {dst:=d0,op:=.call {callee:=.value x,args,argTypes:=ats},type:=ty,pos,after,guard}=callFunc g (args.map a.eval++⟨cs⟩):=by simp only[execOp,resolve,hfv,Deferred.ofValue,pure_bind,invoke];simp
    rw[this];congr 2;simp
   rw[Ox hl]at hcall;cases hcall
  rw[Ws hl (λc e=>hop ⟨c,e⟩)]at hcall;cases hcall
 have hcall:lo.isCall=false:=by simpa using hcall
 have h':Res K o.dst T (ak T L lo):=by cases lo<;>simp only[LOp.isCall,ac8]at hcall<;>exact h
 rcases he:ak T L lo with _|⟨c,av,L'⟩;rw[he]at h';exact h'.elim;rw[he]at h';obtain⟨E',v,w',h1,h2,h3,h4⟩:=PU hR hT hl hcall he h'.1;rcases h1 with h1|⟨h1,rfl⟩;rw[h1,Oper.uponIn_value];exact value h2 h3 h4 h'.2;rw[h1,Oper.uponIn_skip];exact value h2 h3 h4 h'.2
end
section
variable {P:Program}{w0:World}{S0:SB}{N:Nat}
theorem kg{E:Env}{T:Tm}{a:Act}{ops:Array Oper}{j t:Nat}(c:TR E T a)(g:(ops[j]?).bind (·.dst)=some t)(e:t<a.tmps.size):
  (∀x,aq T t=some (.bool x)->yielded ops a.tmps j=some x)/\(aq T t=some (.tup [])->yielded ops a.tmps j=none):=by
 refine⟨λx b=>?_,λb=>?_⟩;have:=c t _ b;simp only[VR]at this;unfold yielded;simp_all;have:=c t _ b;obtain⟨vs,f,d⟩:=this;unfold yielded;simp_all
theorem iF{own:Nat->Nat}{ops:Array Oper}{i:Nat}{a:aj}(h:me P N own ops i=some a):
  ∃o,ops[i]?=some o/\(j4 P (own i) o.op).getD .bad=a.op/\o.dst=a.dst/\(∀d,o.dst=some d->d<N) /\
   ((o.guard=none/\a.guard=none)\/∃j b t,o.guard=some (j,b)/\(ops[j]?).bind (·.dst)=some t/\t<N/\a.guard=some (t,b)):=by
 unfold me at h;split at h;cases h;rename_i o f;split at h;rename_i hd;have c:∀d,o.dst=some d->d<N:=λd e=>by rw[e]at hd;simpa[Zn]using hd
 grind
 cases h
theorem HL{E:Env}{T:Tm}{L:List Blk}{a:Act}{w:World}(h:St w0 S0 N E T L a w){d:Option Nat}(hd:∀k,d=some k->k<N):St w0 S0 N E (bz d (.tup []) T) L (a.put d undef) w :=
 ⟨h.1,h.2.1.putT (λk b=>by rw[h.2.2.1];exact hd k b) ⟨[],rfl,rfl⟩,by rw[MP];exact h.2.2.1,by rw[Hb];exact h.2.2.2⟩
theorem HC{own:Nat->Nat}{ops:Array Oper}{K:Tm->List Blk->Prop}{Q:Exit->Act->World->Prop}{r:Option Nat}:∀(is:List Nat) (d:List aj),bm P N own ops is=some d ->
  ∀{T:Tm}{L:List Blk}{E:Env}{a:Act}{w:World},St w0 S0 N E T L a w->ma P K d T L->(∀E' T' L' D w',E.le E'->K T' L'->St w0 S0 N E' T' L' D w'->Q .normal D w')->wpOpsIn (fm r) 0 P ops Q is a w
 |[],d,hl,T,L,E,a,w,hst,h,hK=>by simp[bm]at hl;subst hl;exact hK E T L a w (.refl E) h hst
 | i::is,d,hl,T,L,E,a,w,hst,h,hK=>by
   simp only[bm]at hl;split at hl<;>try cases hl
   rename_i O c R G;obtain⟨o,M,v,g,hd,I⟩:=iF R;obtain⟨S,A,J⟩:=O;subst g;simp only[wpOpsIn,M];have go:AOp P ⟨o.dst,A,J⟩ (ma P K c) T L->o.wpIn (fm r) 0 P a w (wpOpsIn (fm r) 0 P ops Q is) Q:=λB =>
    ET v hd hst B λE' T' L' D w' F p m=>HC is c G m p λs n C z y k=>hK s n C z y (F.trans k)
   have f:ma P K c (bz o.dst (.tup []) T) L->wpOpsIn (fm r) 0 P ops Q is (a.put o.dst undef) w:=λB =>
    HC is c G (HL hst hd) B hK
   rcases I with⟨g1,q⟩|⟨j,b,t,g1,q,g3,g4⟩
   .subst q;rw[if_pos (by simp[Region.wanted,g1])];exact go h
   .subst g4;simp only[ma]at h;have H:=kg (E:=E) (T:=T) (a:=a) (ops:=ops) hst.2.1 q (by rw[hst.2.2.1];exact g3);rcases hx:aq T t with _|u
    .rw[hx]at h;exact h.elim
    rw[hx]at h;cases u<;>try exact h.elim
    .rename_i x;rw[xI]at h;have:=H.1 x hx;by_cases e:x=b
     .rw[if_pos (by simp[Region.wanted,g1,this,e])];simp_all
     .rw[if_neg (by simp[Region.wanted,g1,this,e])];rw[if_neg e]at h;exact⟨λ_ _=>trivial,f h⟩
    .rename_i l;cases l with
     |cons _ _=>exact h.elim
     | nil =>
       have:=H.2 hx;rw[if_neg (by simp[Region.wanted,g1,this])];exact⟨λ_ _=>trivial,f h⟩
theorem St.weak{T:Tm}{L:List Blk}{E:Env}{a:Act}{w:World}{T':Tm}{L':List Blk}(h:St w0 S0 N E T L a w)(c:∀t v,aq T' t=some v->aq T t=some v)(d:L'.length=L.length)(b:∀(i:Nat) (k:Blk),L'[i]?=some k->k=.dead\/L[i]?=some k):St w0 S0 N E T' L' a w:=⟨h.1.kill d b,h.2.1.weak c,h.2.2⟩
end
def Opd.tmps:Opd->List Nat
 |.tmp t=>[t]
 |.av _=>[]
def UC:Option Opd->List Nat
 |some x=>x.tmps
 |none=>[]
def PD:List (Nat×Nat×Opd)->List Nat
 |[]=>[]
 |(_,_,x)::l=>x.tmps++PD l
def O6:List Opd->List Nat
 |[]=>[]
 |x::l=>x.tmps++O6 l
def LOp.tmps:LOp->List Nat
 |.mv x|.box x|.load _ _ x|.nilchk x|.slnil _ x|.un _ x|.conv _ x|.sconv x|.b2s x|.s2b x|.s2bO x|.s2bG x|.rangeS x|.nextS x|.mkif _ x|.faddr _ x|.field _ _ _ x|.extract x _|.len _ x|.cap x|.clear _ _ x=>x.tmps
 |.pick c a b=>c.tmps++a.tmps++b.tmps
 |.alloc _|.bad|.mkmap=>[]
 |.mlen x|.mclr x|.mrange x|.mnext x|.mentry x=>x.tmps
 |.mget _ _ _ a x=>a.tmps++x.tmps
 |.mdel _ a x=>a.tmps++x.tmps
 |.mset _ c a b=>c.tmps++a.tmps++b.tmps
 |.build _ ps|.bslice _ _ _ _ ps=>PD ps
 |.store _ a x|.bin _ a x|.eqk _ _ a x|.eq2 _ a x|.mkslice _ _ _ a x|.iaddr _ a x|.iaddrA _ _ a x|.idxS a x|.app _ _ _ _ a x|.appz _ _ _ a x|.copy _ a x=>a.tmps++x.tmps
 |.mkfn _ l|.minmax _ l|.call _ l=>O6 l
 |.callv f l=>f.tmps++O6 l
 |.slS x lo hi|.slA _ _ x lo hi=>x.tmps++UC lo++UC hi
 |.slV _ x lo hi mx=>x.tmps++UC lo++UC hi++UC mx
section
variable {T T':Tm}{L:List Blk}
theorem aw{x:Opd}(h:∀t∈x.tmps,aq T t=aq T' t):evX T x=evX T' x:=by
 cases x with
 |tmp t=>exact h t (by simp[Opd.tmps])
 |av a=>rfl
theorem l7{x:Option Opd}(h:∀t∈UC x,aq T t=aq T' t):bnd T x=bnd T' x:=by
 cases x with
 |none=>rfl
 |some x=>simp only[bnd,aw (x:=x) h]
theorem jE:∀{l:List Opd},(∀t∈O6 l,aq T t=aq T' t)->iI T l=iI T' l
 |[],_=>rfl
 |x::l,h=>by simp only[O6,abD]at h;simp only[iI,aw (x:=x) (λt a=>h t (.inl a)),jE (l:=l) (λt a=>h t (.inr a))]
theorem En:∀{ps:List (Nat×Nat×Opd)}{z:List AV},(∀t∈PD ps,aq T t=aq T' t)->kN T z ps=kN T' z ps
 |[],_,_=>rfl
 | (o,s,x)::l,z,h=>by
   simp only[PD,abD]at h;simp only[kN,aw (x:=x) (λt a=>h t (.inl a))];split
   .split
    .exact En λt a=>h t (.inr a)
    .rfl
   .rfl
theorem JJ{lo:LOp}(h:∀t∈lo.tmps,aq T t=aq T' t):ak T L lo=ak T' L lo:=by
 cases lo
 case mv x=>simp only[ak,evD,aw (x:=x) h]
 case box x=>simp only[ak,evD,aw (x:=x) h]
 case load g s x=>simp only[ak,evD,aw (x:=x) h]
 case nilchk x=>simp only[ak,evD,aw (x:=x) h]
 case un o x=>simp only[ak,evD,aw (x:=x) h]
 case conv k x=>simp only[ak,evD,aw (x:=x) h]
 case sconv x=>simp only[ak,evD,aw (x:=x) h]
 case b2s x=>simp only[ak,evD,aw (x:=x) h]
 case bad=>rfl
 case mkmap=>rfl
 case mlen x=>simp only[ak,evD,aw (x:=x) h]
 case mclr x=>simp only[ak,evD,aw (x:=x) h]
 case mrange x=>simp only[ak,evD,aw (x:=x) h]
 case mnext x=>simp only[ak,evD,aw (x:=x) h]
 case mentry x=>simp only[ak,evD,aw (x:=x) h]
 case mget kd ok z a x =>
  simp only[LOp.tmps,abD]at h;simp only[ak,evD,aw (x:=a) (λt ht=>h t (.inl ht)),aw (x:=x) (λt ht=>h t (.inr ht))]
 case mdel kd a x =>
  simp only[LOp.tmps,abD]at h;simp only[ak,evD,aw (x:=a) (λt ht=>h t (.inl ht)),aw (x:=x) (λt ht=>h t (.inr ht))]
 case mset kd c a b =>
  simp only[LOp.tmps,abD]at h;simp only[ak,evD,aw (x:=c) (λt ht=>h t (.inl (.inl ht))),aw (x:=a) (λt ht=>h t (.inl (.inr ht))),aw (x:=b) (λt ht=>h t (.inr ht))]
 case slnil _ x=>simp only[ak,evD,aw (x:=x) h]
 case s2b x=>simp only[ak,evD,aw (x:=x) h]
 case s2bO x=>simp only[ak,evD,aw (x:=x) h]
 case s2bG x=>simp only[ak,evD,aw (x:=x) h]
 case rangeS x=>simp only[ak,evD,aw (x:=x) h]
 case nextS x=>simp only[ak,evD,aw (x:=x) h]
 case mkif t x=>simp only[ak,evD,aw (x:=x) h]
 case faddr o x=>simp only[ak,evD,aw (x:=x) h]
 case field g o s x=>simp only[ak,evD,aw (x:=x) h]
 case extract x i=>simp only[ak,evD,aw (x:=x) h]
 case len b x=>cases b<;>simp only[ak,evD,aw (x:=x) h]
 case cap x=>simp only[ak,evD,aw (x:=x) h]
 case clear s z x=>simp only[ak,evD,aw (x:=x) h]
 case alloc z=>rfl
 case pick c a b =>
  simp only[LOp.tmps,abD]at h;simp only[ak,evD,aw (x:=c) (λt ht=>h t (.inl (.inl ht))),aw (x:=a) (λt ht=>h t (.inl (.inr ht))),aw (x:=b) (λt ht=>h t (.inr ht))]
 case build z ps=>simp only[ak,evD,En (ps:=ps) h]
 case bslice o s n z ps=>simp only[ak,evD,En (ps:=ps) h]
 case mkfn f l=>simp only[ak,evD,jE (l:=l) h]
 case minmax m l =>
  match l,h with
  | [x,y],h =>
    simp only[LOp.tmps,O6,abD,ab1]at h;simp only[ak,evD,aw (x:=x) (λt ht=>h t (.inl ht)),aw (x:=y) (λt ht=>h t (.inr ht))]
  |[],_=>rfl
  |[_],_=>rfl
  |_::_::_::_,_=>rfl
 case call f l=>rfl
 case callv f l=>rfl
 case slS x lo hi =>
  simp only[LOp.tmps,abD]at h;simp only[ak,evD,aw (x:=x) (λt ht=>h t (.inl (.inl ht))),l7 (x:=lo) (λt ht=>h t (.inl (.inr ht))),l7 (x:=hi) (λt ht=>h t (.inr ht))]
 case slA n s x lo hi =>
  simp only[LOp.tmps,abD]at h;simp only[ak,evD,aw (x:=x) (λt ht=>h t (.inl (.inl ht))),l7 (x:=lo) (λt ht=>h t (.inl (.inr ht))),l7 (x:=hi) (λt ht=>h t (.inr ht))]
 case slV s x lo hi mx =>
  simp only[LOp.tmps,abD]at h;simp only[ak,evD,aw (x:=x) (λt ht=>h t (.inl (.inl (.inl ht)))),l7 (x:=lo) (λt ht=>h t (.inl (.inl (.inr ht)))),l7 (x:=hi) (λt ht=>h t (.inl (.inr ht))),l7 (x:=mx) (λt ht=>h t (.inr ht))]
 all_goals
  rename_i a x;simp only[LOp.tmps,abD]at h;simp only[ak,evD,aw (x:=a) (λt ht=>h t (.inl ht)),aw (x:=x) (λt ht=>h t (.inr ht))]
end
def aj.reads(o:aj):List Nat :=
 o.op.tmps++(match o.guard with|some (t,_)=>[t]|none=>[])
def AQv(P:Program)(o:aj)(T:Tm)(L:List Blk)(v:AV):Prop :=
 match o.op with
 | .call f xs=>match iI T xs with
   |some args=>ac P f args L λav L'=>av=v/\L'=L
   |none=>False
 | .callv f xs=>match evX T f,iI T xs with
   |some (.func g caps),some args=>ac P g (args++caps) L λav L'=>av=v/\L'=L
   |_,_=>False
 | lo=>match ak T L lo with
   |some (c,av,L')=>c/\av=v/\L'=L
   |none=>False
def AQ(P:Program)(o:aj)(T:Tm)(L:List Blk)(v:AV):Prop :=
 match o.guard with
 |none=>AQv P o T L v
 | some (t,b)=>match aq T t with
   |some (.bool x)=>if x=b then AQv P o T L v else v=.tup []
   |some (.tup [])=>v=.tup []
   |_=>False
theorem AQ.congr{P:Program}{o:aj}{T T':Tm}{L:List Blk}(h:∀t∈o.reads,aq T t=aq T' t)(g:AQ P o T L v):AQ P o T' L v:=by
 have a:∀t∈o.op.tmps,aq T t=aq T' t:=λt d=>h t (by simp[aj.reads,d])
 have c:AQv P o T L v->AQv P o T' L v:=λc=>by unfold AQv at c⊢;split at c;rename_i f xs e;rw[e]at a;rw[<- jE (l:=xs) a];exact c;rename_i f xs e;rw[e]at a;simp only[LOp.tmps,abD]at a;rw[<- jE (l:=xs) (λt d=>a t (.inr d)),<- aw (x:=f) (λt d=>a t (.inl d))];exact c;rw[<- JJ a];exact c
 unfold AQ at g⊢;split at g;simp[*];rename_i t b i;rw[<- h t (by simp[aj.reads,i])]
 grind
def TL(T:Tm):List aj->List AV->Nat->(Nat->Bool)->Tm
 |o::qs,v::tr,k,f=>TL (if f k=true then bz o.dst v T else T) qs tr (k+1) f
 |_,_,_,_=>T
def RG:List aj->Prop
 |[]=>True
 |o::qs=>(∀p∈qs,∀d,o.dst=some d->p.dst≠some d)/\RG qs
theorem xR{T:Tm}(h:d≠some t):aq (bz d v T) t=aq T t:=by
 cases d with
 |none=>rfl
 |some d=>simp only[bz,aq];rw[if_neg (λe=>h (by rw[e]))]
theorem Jy{T:Tm}:aq (bz (some t) v T) t=some v:=by simp[bz,aq]
theorem Mw{t:Nat}:∀{qs:List aj}{tr:List AV}{T:Tm}{k:Nat}{f:Nat->Bool},(∀(j:Nat) (o:aj),qs[j]?=some o->o.dst=some t->f (k+j)=false)->aq (TL T qs tr k f) t=aq T t
 |[],tr,T,k,f,_=>by cases tr<;>rfl
 |o::qs,[],T,k,f,_=>rfl
 | o::qs,v::tr,T,k,f,h=>by
   simp only[TL];rw[Mw (λj p a hd=>by have:=h (j+1) p (by simpa using a) hd;rwa[show k+1+j=k+(j+1)by omega])];split
   .rename_i hf;refine xR λe=>?_
    have:=h 0 o aev e;simp_all
   .rfl
theorem TX{t:Nat}{v:AV}:∀{qs:List aj}{tr:List AV}{T:Tm}{k:Nat}{f:Nat->Bool}{j:Nat}{o:aj},RG qs->qs[j]?=some o->o.dst=some t->tr[j]?=some v->f (k+j)=true->aq (TL T qs tr k f) t=some v
 |[],_,_,_,_,j,o,_,h,_,_,_=>by simp at h
 |p::qs,[],_,_,_,j,o,_,_,_,h,_=>by simp at h
 |p::qs,u::tr,T,k,f,0,o,hD,h,hd,hv,hf=>by simp only[acs,abz]at h hv;subst h hv;simp only[TL];simp only[ac1]at hf;rw[if_pos hf,Mw λj q b a=>absurd a (hD.1 q (acC b) t hd),hd];exact Jy
 |p::qs,u::tr,T,k,f,j+1,o,hD,h,hd,hv,hf=>by simp only[TL];exact TX hD.2 (by simpa using h) hd (by simpa using hv) (by rwa[show k+1+j=k+(j+1)by omega])
theorem Qa:∀{qs:List aj}{tr:List AV}{T:Tm}{k:Nat}{f g:Nat->Bool},(∀j,j<qs.length->f (k+j)=g (k+j))->TL T qs tr k f=TL T qs tr k g
 |[],tr,T,k,f,g,_=>by cases tr<;>rfl
 |o::qs,[],T,k,f,g,_=>rfl
 |o::qs,v::tr,T,k,f,g,h=>by simp only[TL];have a:=h 0 aev;simp only[ac1]at a;rw[a];exact Qa λj b=>by rw[show k+1+j=k+(j+1)by omega];exact h (j+1) (by simpa using b)
theorem Rx:∀(qs:List aj) (tr:List AV) (T:Tm) (k:Nat),TL T qs tr k (λ_=>false)=T:=by
 intro qs;induction qs with
 |nil=>intro tr T k;cases tr<;>rfl
 | cons q qs ih=>intro tr T k;cases tr with
   |nil=>rfl
   |cons u tr=>simp only[TL];rw[ih];simp
theorem EH{t:Nat}:∀{qs:List aj}{i j:Nat}{o p:aj},RG qs->qs[i]?=some o->qs[j]?=some p->o.dst=some t->p.dst=some t->i=j
 |[],i,j,o,p,_,h,_,_,_=>by simp at h
 |q::qs,0,0,o,p,_,_,_,_,_=>rfl
 |q::qs,0,j+1,o,p,hD,h1,h2,d1,d2=>by simp only[acs,abz]at h1;subst h1;exact absurd d2 (hD.1 p (acC (by simpa using h2)) t d1)
 |q::qs,i+1,0,o,p,hD,h1,h2,d1,d2=>by simp only[acs,abz]at h2;subst h2;exact absurd d1 (hD.1 o (acC (by simpa using h1)) t d2)
 |q::qs,i+1,j+1,o,p,hD,h1,h2,d1,d2=>by have:=EH (i:=i) (j:=j) (o:=o) (p:=p) hD.2 (by simpa using h1) (by simpa using h2) d1 d2;omega
theorem P8{qs:List aj}{tr:List AV}{T:Tm}{f:Nat->Bool}{j:Nat}{o:aj}(d:RG qs)(i:tr.length=qs.length)(h:qs[j]?=some o)(hd:o.dst=some t):
  aq (TL T qs tr 0 f) t=if f j=true then tr[j]? else aq T t:=by
 have c:j<tr.length:=by have:=(aby.1 h).1;omega
 split;rename_i e;rw[ab0 c];exact TX d h hd (ab0 c) (by simpa using e);rename_i e;exact Mw λk g b a=>by have:=EH d b h a hd;simp[*]
theorem P9{qs:List aj}{tr:List AV}{T:Tm}{f:Nat->Bool}(h:∀(j:Nat) (o:aj),qs[j]?=some o->o.dst≠some t):aq (TL T qs tr 0 f) t=aq T t :=
 Mw λj o a hd=>absurd hd (h j o a)
def TQ(tbl:List Nat)(o:Oper):Nat:=(o.after.toList.filter λe=>Region.binds .any e).foldl (λacc e=>acc |||(1 <<< e.on) |||tbl.getD e.on 0) 0
def nq:List Oper->List Nat->List Nat
 |[],t=>t
 |o::l,t=>nq l (t++[TQ t o])
def WW(ops:Array Oper)(tbl:List Nat):Bool:=ops.toList.zipIdx.all λ(o,i)=>tbl.getD i 0 == TQ tbl o
theorem Pm{o:Oper}{j:Nat}(h:(TQ tbl o).testBit j=true):∃e∈o.after.toList,Region.binds .any e=true/\(j=e.on\/(tbl.getD e.on 0).testBit j=true):=by
 have key:∀(l:List Edge) (b:Nat),(l.foldl (λb e=>b |||(1 <<< e.on) |||tbl.getD e.on 0) b).testBit j=true->b.testBit j=true\/∃e∈l,j=e.on\/(tbl.getD e.on 0).testBit j=true:=by
  intro l;induction l with
  |nil=>intro b h;exact .inl h
  | cons e l ih =>
    intro b h;rcases ih _ h with a|⟨d,a,c⟩
    .rw[Nat.testBit_or,Nat.testBit_or,acn,acn]at a;rcases a with(a|a)|a
     .simp[*]
     .refine .inr ⟨e,aev,.inl ?_⟩;rw[Nat.one_shiftLeft,Nat.testBit_two_pow]at a;exact(of_decide_eq_true a).symm
     .exact .inr ⟨e,aev,.inr a⟩
    .exact .inr ⟨d,by simp[a],c⟩
 rcases key _ _ h with a|⟨e,a,c⟩;simp at a;rw[acj]at a;exact⟨e,a.1,a.2,c⟩
def TP:List aj->Bool
 |[]=>true
 |o::qs=>(match o.dst with|some d=>qs.all λp => !(p.dst == some d)|none=>true)&&TP qs
theorem NP:∀{qs:List aj},TP qs=true->RG qs
 |[],_=>trivial
 |o::qs,h=>by simp only[TP,abH]at h;refine⟨λp a d hd=>?_,NP h.2⟩;simp_all
def aaE(tbl:List Nat)(los:List aj):Bool :=
 los.zipIdx.all λ(o,i)=>o.reads.all λt=>los.zipIdx.all λ(p,j) => !(p.dst == some t) ||(tbl.getD i 0).testBit j ||(tbl.getD j 0).testBit i
def Oi(ops:Array Oper):Bool:=ops.toList.zipIdx.all λ(o,i)=>o.after.toList.all λe => !Region.binds .any e ||decide (e.on<i)
def ST(tbl:List Nat)(n k:Nat):Bool:=(List.range k).all λi=>decide (i<n) ||(List.range i).all λj=>(tbl.getD i 0).testBit j
def Po(tbl:List Nat)(k:Nat):Nat->Nat
 |0=>0
 |n+1=>if((List.range n).all λj=>(tbl.getD n 0).testBit j)=true then Po tbl k n else n+1
def Er(ops:Array Oper)(los:List aj)(n:Nat):Bool :=
 let tbl:=nq ops.toList []
 TP los&&aaE tbl los&&Oi ops&&WW ops tbl&&ST tbl n ops.size
def Ky(ops:Array Oper)(listed:Array Bool):Prop:=∀(i:Nat) (o:Oper),listed.getD i false=true->ops[i]?=some o->∀e∈o.after,Region.binds .any e=true->listed.getD e.on false=true
theorem Ti{ops:Array Oper}(b:WW ops tbl=true){o:Oper}(a:ops[i]?=some o):tbl.getD i 0=TQ tbl o:=by have:=abL.1 b (o,i) (by rw[adu];simpa using a);simp_all
theorem EU{ops:Array Oper}(h:Oi ops=true){o:Oper}(a:ops[i]?=some o){e:Edge}(c:e∈o.after)(b:Region.binds .any e=true):e.on<i:=by
 have:=abL.1 h (o,i) (by rw[adu];simpa using a)
 grind
theorem PX{ops:Array Oper}(h:Oi ops=true)(g:WW ops tbl=true):∀(i j:Nat),i<ops.size->(tbl.getD i 0).testBit j=true->j<i:=by
 intro i;induction i using Nat.strongRecOn with
 | _ i ih =>
   intro j d a;have b:ops[i]?=some ops[i]:=acq d;rw[Ti g b]at a;obtain⟨e,k,f,a⟩:=Pm a;have c:=EU h b (by simpa using k) f
   grind
theorem fo{ops:Array Oper}(h:Oi ops=true)(u:WW ops tbl=true){a:Array Bool}(q:Ky ops a):∀(i j:Nat),i<ops.size ->
  (∀o,ops[i]?=some o->∀e∈o.after,Region.binds .any e=true->a.getD e.on false=true)->(tbl.getD i 0).testBit j=true->a.getD j false=true:=by
 intro i;induction i using Nat.strongRecOn with
 | _ i ih =>
   intro j s f b;have c:ops[i]?=some ops[i]:=acq s;rw[Ti u c]at b;obtain⟨e,n,m,b⟩:=Pm b;have g:=EU h c (by simpa using n) m;have t:=f _ c e (by simpa using n) m;rcases b with rfl|b
   .omega
   .exact ih e.on g j aeu (λp k r d l=>q e.on p t k r d l) b
theorem U8:∀(l:List Bool) (i:Nat),l[i]?=some false->(l.set i true).count false+1=l.count false
 |[],i,h=>by simp at h
 |b::l,0,h=>by simp at h;subst h;simp
 |b::l,i+1,h=>by grind
theorem xP{P:Program}{N:Nat}{own:Nat->Nat}{ops:Array Oper}:∀{is:List Nat}{a:List aj},bm P N own ops is=some a->a.length=is.length/\∀(k i:Nat),is[k]?=some i->∃b,a[k]?=some b/\me P N own ops i=some b
 |[],a,h=>by simp[bm]at h;subst h;simp
 | j::is,a,h=>by
   simp only[bm]at h;split at h<;>try cases h
   rename_i o m d c;have:=xP c
   grind
section
variable {P:Program}{r:Option Nat}{w0:World}{S0:SB}{N:Nat}{own:Nat->Nat}{ops:Array Oper}{L:List Blk}
theorem Xm{i:Nat}{q:aj}(S:me P N own ops i=some q){T:Tm}{v:AV}{E:Env}{a:Act}{w:World}(d:St w0 S0 N E T L a w)(l:AQ P q T L v){K:Act->World->Prop}{Q:Exit->Act->World->Prop}(z:∀E' F w',E.le E'->St w0 S0 N E' (bz q.dst v T) L F w'->K F w'):wpOpIn (fm r) 0 P ops Q i K a w:=by
 obtain⟨o,R,n,m,hd,H⟩:=iF S;obtain⟨W,k,y⟩:=q;simp only at n m H z;subst m;unfold wpOpIn;simp only[R];have p:AQv P ⟨o.dst,k,y⟩ T L v->AOp P ⟨o.dst,k,y⟩ (λT' L'=>T'=bz o.dst v T/\L'=L) T L:=λh=>by
  unfold AQv at h;unfold AOp;simp only at h⊢;split at h;split at h;rename_i f xs _ args A;show Cal P f _ o.dst T L (iI T xs);rw[A];exact h.mono λav L' ⟨C,D⟩=>by subst C;exact⟨rfl,D⟩
  simp_all;split at h;rename_i f xs _ _ g caps args G u;show Vo P _ o.dst T L (evX T f) (iI T xs);rw[G,u];exact h.mono λav L' ⟨C,D⟩=>by subst C;exact⟨rfl,D⟩
  simp_all;split at h;rename_i c av L' A;have I:Res (λT' L'=>T'=bz o.dst v T/\L'=L) o.dst T (ak T L k):=by rw[A];obtain⟨O,rfl,rfl⟩:=h;exact⟨O,rfl,rfl⟩
  simp_all;simp_all
 have go:AQv P ⟨o.dst,k,y⟩ T L v->o.wpIn (fm r) 0 P a w K Q:=λh =>
  ET n hd d (p h) λE' T' L' F w' U V M=>by grind
 unfold AQ at l;rcases H with⟨g1,s⟩|⟨j,b,t,g1,s,g3,g4⟩;subst s;simp only at l;rw[if_pos (by simp[Region.wanted,g1])];simp[*];subst g4;simp only at l;have J:=kg (E:=E) (T:=T) (a:=a) (ops:=ops) d.2.1 s (by rw[d.2.2.1];exact g3);split at l;rename_i x B;have:=J.1 x B;by_cases e:x=b;rw[if_pos e]at l;rw[if_pos (by simp[Region.wanted,g1,this,e])];simp[*];rw[if_neg e]at l;subst l;rw[if_neg (by simp[Region.wanted,g1,this,e])];exact⟨λ_ _=>trivial,z E _ w (.refl E) (HL d hd)⟩;rename_i B;have:=J.2 B;subst l;rw[if_neg (by simp[Region.wanted,g1,this])];exact⟨λ_ _=>trivial,z E _ w (.refl E) (HL d hd)⟩;simp_all
theorem Og{i:Nat}{s:aj}(G:me P N own ops i=some s){T:Tm}{L:List Blk}{E:Env}{a:Act}{w:World}(c:St w0 S0 N E T L a w){K:Tm->List Blk->Prop}(h:ma P K [s] T L){m:Act->World->Prop}{Q:Exit->Act->World->Prop}(A:∀E' T' L' k w',E.le E'->K T' L'->St w0 S0 N E' T' L' k w'->m k w'):wpOpIn (fm r) 0 P ops Q i m a w:=by
 obtain⟨o,F,q,f,hd,C⟩:=iF G;obtain⟨H,v,D⟩:=s;subst f;unfold wpOpIn;simp only[F];have go:AOp P ⟨o.dst,v,D⟩ (ma P K []) T L->o.wpIn (fm r) 0 P a w m Q:=λy =>
  ET q hd c y λE' T' L' k w' z n g=>A E' T' L' k w' z n g
 have d:K (bz o.dst (.tup []) T) L->m (a.put o.dst undef) w:=λy=>A E _ L _ w (.refl E) y (HL c hd)
 rcases C with⟨g1,p⟩|⟨j,b,t,g1,p,g3,g4⟩;subst p;rw[if_pos (by simp[Region.wanted,g1])];exact(go h);subst g4;simp only[ma]at h;have B:=kg (E:=E) (T:=T) (a:=a) (ops:=ops) c.2.1 p (by rw[c.2.2.1];exact g3);rcases hx:aq T t with _|u;rw[hx]at h;exact h.elim;rw[hx]at h;cases u<;>try exact h.elim
 rename_i x;rw[xI]at h;have:=B.1 x hx;by_cases e:x=b;rw[if_pos (by simp[Region.wanted,g1,this,e])];rw[if_pos e]at h;exact(go h);rw[if_neg (by simp[Region.wanted,g1,this,e])];rw[if_neg e]at h;exact⟨λ_ _=>trivial,d h⟩;rename_i l;cases l with
 |cons _ _=>exact h.elim
 | nil =>
   have:=B.2 hx;rw[if_neg (by simp[Region.wanted,g1,this])];exact⟨λ_ _=>trivial,d h⟩
theorem RQ{I:List aj}{tbl:List Nat}{n:Nat}(J:bm P N own ops (List.range ops.size)=some I)(c:Oi ops=true)(C:WW ops tbl=true)(u:ST tbl n ops.size=true){K:Tm->List Blk->Prop}{Q:Exit->Act->World->Prop}{E0:Env}(hQ:∀E' T' L' R w',E0.le E'->K T' L'->St w0 S0 N E' T' L' R w'->Q .normal R w'):
  ∀(ts:List aj) (k:Nat) (b:Array Bool) (T:Tm) (L:List Blk) (a:Act) (w:World) (E:Env),n<=k->k+ts.length=ops.size->I.drop k=ts->b.size=ops.size ->
   (∀i,i<ops.size->b.getD i false=decide (i<k))->Ky ops b->E0.le E->St w0 S0 N E T L a w->ma P K ts T L->wpAnyIn (fm r) 0 P .any ops Q ts.length b a w:=by
 have H:=xP J;have p:∀(k:Nat) (b:Array Bool),n<=k->b.size=ops.size->(∀i,i<ops.size->b.getD i false=decide (i<k))->Ky ops b->∀i∈Region.ready .any ops b,i=k:=by
  intro k b s q v f i B;obtain⟨ad,o,W,V⟩:=mem_ready.1 B;have G:i<ops.size:=(acl.1 W).1;have D:¬i<k:=λe=>by simp_all
  rcases ab5 k i with Y|Y;have:=abL.1 u i (by simpa using G);simp only[acn,decide_eq_true_eq]at this;rcases this with h2|h2;omega;have h3:=abL.1 h2 k (by simpa using Y);have h4:=fo c C f i k G (λo' m=>by rw[W]at m;cases m;exact V) h3
  grind
  omega
 intro ts;induction ts with
 | nil =>
   intro k b T L a w E s hk y q v f U x h;refine⟨List.eq_nil_iff_forall_not_mem.2 (λi B=>?_),hQ E T L a w U h x⟩;have Y:=p k b s q v f i B;obtain⟨_,o,W,_⟩:=mem_ready.1 B;simp_all
 | cons t ts ih =>
   intro k b T L a w E s hk y q v f U x h;simp only[abU]at hk;have z:k<ops.size:=aeu;have F:k∈Region.ready .any ops b:=by
    refine mem_ready.2 ⟨?_,ops[k],acq z,λe O Z=>?_⟩
    .simp_all
    .have:=EU c (acq z) O Z;rw[v _ aeu];simpa using this
   refine⟨λe=>absurd F (by rw[e];simp),λi B=>?_⟩;have D:=p k b s q v f i B;subst D;obtain⟨X,g1,g2⟩:=H.2 i i (by simp[z]);have ht:X=t:=by have:=congrArg (λl=>l[0]?) y;simp only[aci,ac1,acs]at this;rw[g1]at this;exact Option.some.inj this
   subst ht;have h':ma P (ma P K ts) [X] T L:=by obtain⟨d,op,g⟩:=X;cases g<;>exact h
   exact Og g2 x h' λE' T' L' R w' ab S M=>by
    refine ih (i+1) (b.setIfInBounds i true) T' L' R w' E' aeu aeu ?_ (by simpa using q) (λj A=>?_) ?_ (U.trans ab) M S
    .rw[<- adh,y];rfl
    .by_cases e:j=i
     .subst e;have:j<b.size:=aeu;simp[acR,this]
     .rw[getD_set_ne false (Ne.symm e),v j A];congr 1;apply propext;omega
    .intro j o' A m e O hb;have h5:=EU c m O hb;have h6:j<ops.size:=(acl.1 m).1;by_cases e1:j=i
     .subst e1;rw[getD_set_ne false aeu,v _ aeu];simpa using h5
     .rw[getD_set_ne false (Ne.symm e1)]at A;rw[getD_set_ne false (by rw[v j h6]at A;simp at A;omega)];exact f j o' A m e O hb
def lst(L:List Blk)(al:Option (Nat×List AV))(listed:Array Bool):List Blk :=
 match al with
 |some (i,z)=>if listed.getD i false=true then L++[.cells z]else L
 |none=>L
end
end Go.Proofs.YtajkbcmleihaoaaGreatDoor.Av
