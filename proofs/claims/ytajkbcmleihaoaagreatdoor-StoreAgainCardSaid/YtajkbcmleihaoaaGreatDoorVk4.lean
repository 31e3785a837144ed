/- Joined texts of the walk, made small by a program. -/
import Derived.Test.YtajkbcmleihaoaaGreatDoorVk3
import Derived.Scope
import Derived.Test.YtajkbcmleihaoaaGreatDoorProg
set_option linter.unusedSimpArgs false
set_option linter.unusedVariables false
namespace Go.Proofs.YtajkbcmleihaoaaGreatDoor.Av
open Go
variable {T':Tm}{L2 L':List Blk}{v:AV}{α:Type}{B:Nat}
def EQv(P:Program)(o:aj)(T:Tm)(L:List Blk)(v:AV)(L2:List Blk):Prop :=
 match o.op with
 | .call f xs=>match iR T xs with
   |some args=>ac P f args L λav L'=>av=v/\L'=L2
   |none=>False
 | .callv f xs=>match evX T f,iR T xs with
   |some (.func g caps),some args=>ac P g (args++caps) L λav L'=>av=v/\L'=L2
   |_,_=>False
 | lo=>match ak T L lo with
   |some (c,av,L')=>c/\av=v/\L'=L2
   |none=>False
def EQ(P:Program)(o:aj)(T:Tm)(L:List Blk)(v:AV)(L2:List Blk):Prop :=
 match o.guard with
 |none=>EQv P o T L v L2
 | some (t,b)=>match ar T t with
   |some (.bool x)=>if x=b then EQv P o T L v L2 else v=.tup []/\L2=L
   |some (.tup [])=>v=.tup []/\L2=L
   |_=>False
theorem EQv.congr{P:Program}{o:aj}{T:Tm}{L:List Blk}(a:∀t∈o.op.tmps,ar T t=ar T' t)(b:EQv P o T L v L2):EQv P o T' L v L2:=by unfold EQv at b⊢;split at b;rename_i f xs e;rw[e]at a;rw[<- jS (l:=xs) a];exact b;rename_i f xs e;rw[e]at a;simp only[LOp.tmps,ae2]at a;rw[<- jS (l:=xs) (λt c=>a t (.inr c)),<- ax (x:=f) (λt c=>a t (.inl c))];exact b;rw[<- Mg a];exact b
theorem EQ.congr{P:Program}{o:aj}{T:Tm}{L:List Blk}(h:∀t∈o.reads,ar T t=ar T' t)(a:EQ P o T L v L2):EQ P o T' L v L2:=by
 have c:∀t∈o.op.tmps,ar T t=ar T' t:=λt f=>h t (by simp[aj.reads,f])
 unfold EQ at a⊢;split at a;exact a.congr c;rename_i t b d;rw[<- h t (by simp[aj.reads,d])];split at a;split at a;rename_i e;rw[if_pos e];exact a.congr c;simp[*];omega;omega
theorem EQv.aop{P:Program}{o:aj}{T:Tm}{L:List Blk}(a:EQv P o T L v L2):AOp P o (λT' L'=>T'=bC o.dst v T/\L'=L2) T L:=by
 unfold EQv at a;unfold AOp;split at a;rename_i f xs e;simp only[e];split at a;rename_i args h;rw[h];exact ac.mono a λav L' ⟨d,b⟩=>⟨by rw[d],b⟩
 simp_all;rename_i f xs e;simp only[e];split at a;rename_i g caps args l h;rw[l,h];exact ac.mono a λav L' ⟨d,b⟩=>⟨by rw[d],b⟩
 simp_all;rename_i m d b;split at a;rename_i c av L' j;have i:Res (λT' L'=>T'=bC o.dst v T/\L'=L2) o.dst T (ak T L o.op):=by rw[j];obtain⟨k,rfl,rfl⟩:=a;exact⟨k,rfl,rfl⟩
 simp_all;simp_all
theorem EQ.aops{P:Program}{o:aj}{T:Tm}{L:List Blk}(a:EQ P o T L v L2):mN P (λT' L'=>T'=bC o.dst v T/\L'=L2) [o] T L:=by unfold EQ at a;simp only[mN];split at a;rename_i d;simp only[d];exact a.aop;rename_i t b d;simp only[d];split at a;rename_i x c;rw[c,yT];split at a;rename_i e;rw[if_pos e];exact a.aop;simp[*];rename_i c;rw[c,S9];exact⟨by rw[a.1],a.2.symm⟩;simp_all
def done(es:List Nat)(listed:Array Bool):Nat:=es.countP λe=>listed.getD e false
theorem OI:∀(es:List Nat) (f:Nat->Bool) (m:Nat),(∀(j e:Nat),es[j]?=some e->f e=decide (j<m))->m<=es.length->es.countP f=m
 |[],f,m,_,hm=>by simp at hm;simp[hm]
 | e::es,f,0,h,_=>by
   refine ahK.2 λx a=>?_
   obtain⟨j,b,rfl⟩:=agZ.1 a;have:=h j _ (afn b);simp[*]
 |e::es,f,m+1,h,hm=>by rw[List.countP_cons_of_pos (by have:=h 0 e rfl;simpa using this)];rw[OI es f m (λj x a=>by have:=h (j+1) x (by simpa using a);rw[this];congr 1;simp) (by simpa using hm)]
theorem Oz:∀(es:List Nat) (f:Nat->Bool),(∀(j d e g:Nat),es[j]?=some e->es[d]?=some g->j<d->f g=true->f e=true)->∀(j e:Nat),es[j]?=some e->f e=decide (j<es.countP f)
 |[],f,_,j,e,h=>by simp at h
 | x::es,f,hp,j,e,h=>by
   have p:=Oz es f λa b y z l m o=>hp (a+1) (b+1) y z (by simpa using l) (by simpa using m) ah3
   by_cases i:f x=true
   .grind
   .have all:∀y∈es,f y=false:=λy c=>by
     obtain⟨k,n,rfl⟩:=agZ.1 c;rcases hf:f es[k]with _|_
     .rfl
     .exact absurd (hp 0 (k+1) x es[k] rfl ah4 ah3 hf) i
    rw[List.countP_cons_of_neg i,ahK.2 (λy c=>by simp[all y c])]
    grind
section
variable {P:Program}{r:Option Nat}{w0:World}{S0:SB}{N:Nat}{own:Nat->Nat}{ops:Array Oper}{L:List Blk}
theorem V1{O:List aj}{n:Nat}(a5:bt P N own ops (List.range ops.size)=some O)(bk:GB ops O n=true){qs ts:List aj}(u:O=qs++ts)(hn:qs.length=n){es:List Nat}{Ms:Nat->List Blk}(bb:∀e∈es,e<qs.length)(a0:∀(j j' e e':Nat),es[j]?=some e->es[j']?=some e'->j<j'->((om ops.toList []).getD e' 0).testBit e=true){K:Tm->List Blk->Prop}{T:Tm}{Q:Exit->Act->World->Prop}{E0:Env}{tr:List AV}(a1:tr.length=qs.length)(hq:∀(i:Nat) (o:aj) (v:AV),qs[i]?=some o->tr[i]?=some v->(∃m,es[m]?=some i/\EQ P o (TL T qs tr 0 λj=>decide (j<i)) (Ms m) v (Ms (m+1))) \/
   (i∉es/\∀m,m<=es.length->(∀(j e:Nat),es[j]?=some e->j<m->((om ops.toList []).getD e 0).testBit i=false)->(∀(j e:Nat),es[j]?=some e->m<=j->((om ops.toList []).getD i 0).testBit e=false)->AQ P o (TL T qs tr 0 λj=>decide (j<i)) (Ms m) v))(hK:mN P K ts (TL T qs tr 0 λ_=>true) (Ms es.length))(hQ:∀E' T' L' a' w',E0.le E'->K T' L'->St w0 S0 N E' T' L' a' w'->Q .normal a' w'):
  ∀(f:Nat) (b:Array Bool) (a:Act) (w:World) (E:Env),b.size=ops.size->b.toList.count false=f->No ops b->E0.le E ->
   (∀i,qs.length<=i->b.getD i false=false)->St w0 S0 N E (TL T qs tr 0 λj=>b.getD j false) (Ms (done es b)) a w->wpAnyIn (fB r) 0 P .any ops Q f b a w:=by
 simp only[GB,ae7]at bk;generalize htbl:om ops.toList []=tbl at bk a0 hq;obtain⟨⟨⟨⟨a9,bl⟩,c⟩,g⟩,S⟩:=bk;have a6:=za a5;have bn:O.length=ops.size:=by simpa using a6.1
 have b5:∀i,i<ops.size->∃lo,O[i]?=some lo/\mR P N own ops i=some lo:=λi X=>a6.2 i i (by simp[X])
 have hD:UR qs:=by
  have:=Qt a9;rw[u]at this;have sub:∀(qs ts:List aj),UR (qs++ts)->UR qs:=by
   intro qs;induction qs with
   |nil=>intro _ _;trivial
   |cons q qs ih=>intro ts h;exact⟨λp M=>h.1 p (by simp[M]),ih ts h.2⟩
  grind
 have ai:qs.length+ts.length=ops.size:=by rw[<- bn,u];simp
 have A:∀b:Array Bool,b.size=ops.size->Region.ready .any ops b=[]->∀i,i<ops.size->b.getD i false=true:=by
  intro b y hr i;induction i using Nat.strongRecOn with
  | _ i ih =>
    intro X;rcases Z:b.getD i false with _|_
    .exfalso;have:i∈Region.ready .any ops b:=by
      refine mem_ready.2 ⟨?_,ops[i],afR X,λe G b1=>?_⟩
      .have z:i<b.size:=ah3;simp[agl,z]at Z⊢;exact Z
      .have:=afd.1 c (ops[i],i) (by rw[agY];simp[X])
       have:=afd.1 this e (by simpa using G);simp only[b1,ahf,ag0,decide_eq_true_eq]at this;exact ih e.on this ah3
     rw[hr]at this;cases this
    .rfl
 have av:∀(b:Array Bool) (i:Nat),b.size=ops.size->i<ops.size->b.getD i true=b.getD i false:=λb i d W=>by have:i<b.size:=ah3;simp[agl,this]
 have R:∀(b:Array Bool) (a:Act) (w:World) (E:Env) (f:Nat),b.size=ops.size->b.toList.count false=f->No ops b->E0.le E->(∀i,qs.length<=i->b.getD i false=false)->St w0 S0 N E (TL T qs tr 0 λj=>b.getD j false) (Ms (done es b)) a w ->
   (∀i,i<qs.length->b.getD i false=true)->wpAnyIn (fB r) 0 P .any ops Q f b a w:=by
  intro b a w E f y C l hE D I x;have b7:TL T qs tr 0 (λj=>b.getD j false)=TL T qs tr 0 λ_=>true:=S6 λj hj=>by simp only[agm];exact x j hj
  have hL:Ms (done es b)=Ms es.length:=by congr 1;exact List.countP_eq_length.2 λe G=>x e (bb e G)
  rw[b7,hL]at I;have bd:O.drop qs.length=ts:=(by rw[u];simp);have a_:f=ts.length:=by
   rw[<- C,<- Nat.add_left_cancel_iff (n:=qs.length),ai,<- y];have e:b.toList=List.replicate qs.length true++List.replicate (b.size-qs.length) false:=by
    apply af1;intro i;rcases aft i qs.length with d|d
    .have:=x i d;have F:i<b.size:=ah3;rw[ae3 (by simpa using d)];simp[agl,F]at this;simp[F,d,this]
    .rw[aff (by simpa using d)];have:=D i d;rcases aft i b.size with W|W
     .simp[agl,W]at this;simp only[agN];rw[List.getElem?_replicate];rw[if_pos ah3];simp[W,this]
     .rw[afV (by simpa using W),afV (by simp;omega)]
   rw[e];simp[List.count_append,aht];omega
  rw[a_];exact U1 a5 c g S hQ ts qs.length b _ _ a w E ah3 ai bd y (λi X=>by
   rcases aft i qs.length with d|d
   .rw[x i d];simpa using d
   .rw[D i d];simpa using d) l hE I hK
 intro f;induction f with
 | zero =>
   intro b a w E y C l hE D I;have hr:Region.ready .any ops b=[]:=by
    refine List.eq_nil_iff_forall_not_mem.2 λi X=>?_
    obtain⟨d,o,ho,_⟩:=mem_ready.1 X;have z:i<ops.size:=(afJ.1 ho).1;have:false∈b.toList:=by have F:i<b.size:=ah3;simp[agl,F]at d;rw[<- d];simp
    rw[List.count_eq_zero]at C;exact C this
   exact R b a w E 0 y C l hE D I λi X=>A b y hr i ah3
 | succ f ih =>
   intro b a w E y C l hE D I;by_cases x:∀i,i<qs.length->b.getD i false=true
   .exact R b a w E _ y C l hE D I x
   refine⟨λhr=>absurd (λi X=>A b y hr i ah3) x,λi X=>?_⟩;obtain⟨b2,o,ho,a3⟩:=mem_ready.1 X;have z:i<ops.size:=(afJ.1 ho).1;have L:b.getD i false=false:=(by rw[<- av b i y z];exact b2);obtain⟨lo,Y,a7⟩:=b5 i z;have s:∀V,ops[i]?=some V->∀e∈V.after,Region.binds .any e=true->b.getD e.on false=true:=λV B=>by rw[ho]at B;cases B;exact a3
   have H:∀k,(b.setIfInBounds i true).getD k false=if k=i then true else b.getD k false:=λk=>by
    by_cases e:k=i
    .subst e;have:k<b.size:=ah3;simp[agl,this]
    .rw[if_neg e];exact getD_set_ne false (Ne.symm e)
   have ab:(b.setIfInBounds i true).toList.count false=f:=by
    have F:i<b.size:=ah3;have:=Yf b.toList i (by simp[agl,F]at L;simp[F,L])
    rw[Array.toList_setIfInBounds];omega
   have a4:No ops (b.setIfInBounds i true):=λk V hk B e G Z=>by
    rw[H]at hk⊢;by_cases U:e.on=i
    .rw[if_pos U]
    .rw[if_neg U];by_cases e2:k=i
     .subst e2;exact s V B e G Z
     .rw[if_neg e2]at hk;exact l k V hk B e G Z
   rcases aft i qs.length with bs|bs
   .
    have a2:qs[i]?=some lo:=by rw[u,ae3 bs]at Y;exact Y
    have bo:i<tr.length:=ah3;have ad:∀t∈lo.reads,ar (TL T qs tr 0 λj=>decide (j<i)) t=ar (TL T qs tr 0 λj=>b.getD j false) t:=by
     intro t ht;by_cases hw:∃(j:Nat) (p:aj),qs[j]?=some p/\p.dst=some t
     .obtain⟨j,p,M,hd⟩:=hw;have bx:j<qs.length:=(aeY.1 M).1;rw[SY hD a1 M hd,SY hD a1 M hd];have b0:O[j]?=some p:=(by rw[u,ae3 bx];exact M);have:=afd.1 bl (lo,i) (by rw[agY];simpa using Y);have:=afd.1 this t ht;have:=afd.1 this (p,j) (by rw[agY];simpa using b0);simp only[hd,beq_self_eq_true,ahf,ag0,afM,ahL]at this;rcases this with d|d
      .have U:=SM c g _ _ ah3 d;have e2:=fD c g l i j z s d;simp only[decide_eq_true_eq,if_pos U,if_pos e2]
      .have U:=SM c g _ _ ah3 d;have e2:b.getD j false=false:=by
        rcases Z:b.getD j false with _|_
        .rfl
        .have:=fD c g l j i ah3 (λV B=>l j V Z B) d;rw[L]at this;cases this
       simp only[decide_eq_true_eq,if_neg (show ¬j<i by omega),e2,afm,if_false]
     .have hno:∀(j:Nat) (p:aj),qs[j]?=some p->p.dst≠some t:=λj p M hd=>hw ⟨j,p,M,hd⟩
      rw[SZ hno,SZ hno]
    have an:∀(t:Nat) (v:AV),ar (TL T qs tr 0 λj=>(b.setIfInBounds i true).getD j false) t=some v->ar (bC lo.dst tr[i] (TL T qs tr 0 λj=>b.getD j false)) t=some v:=by
     intro t v hv;by_cases hw:∃(j:Nat) (p:aj),qs[j]?=some p/\p.dst=some t
     .obtain⟨j,p,M,hd⟩:=hw;rw[SY hD a1 M hd]at hv;by_cases e:j=i
      .subst e;rw[a2]at M;cases M;rw[hd,LX];rw[if_pos (by rw[H,if_pos rfl]),afn bo]at hv;exact hv
      .have hne:lo.dst≠some t:=λe'=>e (GY hD M a2 hd e')
       rw[zc hne,SY hD a1 M hd];simp only[H,if_neg e]at hv;exact hv
     .have hno:∀(j:Nat) (p:aj),qs[j]?=some p->p.dst≠some t:=λj p M hd=>hw ⟨j,p,M,hd⟩
      rw[SZ hno]at hv;rw[zc (hno i lo a2),SZ hno];exact hv
    have al:∀k,qs.length<=k->(b.setIfInBounds i true).getD k false=false:=λk hk=>by rw[H,if_neg ah3];exact D k hk
    have J:∀j e,es[j]?=some e->b.getD e false=decide (j<done es b):=Oz es _ λj j' e e' d W h3 h4=>by have F:e'<ops.size:=(by have:=bb e' (af0 W);omega);exact fD c g l e' e F (λV B=>l e' V h4 B) (a0 j j' e e' d W h3)
    have b3:done es b<=es.length:=List.countP_le_length;rcases hq i lo tr[i] a2 (afn bo)with⟨m,g1,g2⟩|⟨g1,g2⟩
    .have hm:done es b=m:=by
      have d:=J m i g1;rw[L]at d;have W:¬m<done es b:=(by simpa using d.symm);rcases aft (done es b) m with h3|h3
      .obtain⟨e,G⟩:∃e,es[done es b]?=some e:=⟨_,afn (by have:=(aeY.1 g1).1;omega)⟩;have h4:=J _ e G;rw[fD c g l i e z s (a0 _ _ e i G g1 h3)]at h4;simp at h4
      .omega
     have b4:done es (b.setIfInBounds i true)=m+1:=by
      refine OI es _ (m+1) (λj e G=>?_) (by have:=(aeY.1 g1).1;omega);rw[H];by_cases U:e=i
      .subst U;rw[if_pos rfl];rcases Nat.lt_trichotomy j m with h3|h3|h3
       .simp;omega
       .simp;omega
       .have:=SM c g e e z (a0 m j e e g1 G h3);omega
      .rw[if_neg U,J j e G,hm];have:j≠m:=λe2=>by subst e2;rw[g1]at G;cases G;exact U rfl
       congr 1;simp only[eq_iff_iff];omega
     rw[hm]at I;refine QU a7 I (EQ.aops (EQ.congr ad g2)) λE' T' L' a' w' a8 ⟨U,e2⟩ ap=>ih _ a' w' E' (by simpa using y) ab a4 (hE.trans a8) al ?_
     subst U;subst e2;rw[b4];exact ap.weak an rfl λ_ _ e=>.inr e
    .have hL:done es (b.setIfInBounds i true)=done es b:=by
      unfold done;refine List.countP_congr λe G=>?_
      rw[H,if_neg (λU:e=i=>g1 (U▸G))]
     have b6:=g2 (done es b) b3 (λj e G hj=>by
      rcases Z:(tbl.getD e 0).testBit i with _|_
      .rfl
      .have d:=J j e G;rw[decide_eq_true hj]at d;have F:e<ops.size:=(by have:=bb e (af0 G);omega);have:=fD c g l e i F (λV B=>l e V d B) Z;rw[L]at this;cases this) (λj e G hj=>by
      rcases Z:(tbl.getD i 0).testBit e with _|_
      .rfl
      .have d:=J j e G;rw[fD c g l i e z s Z]at d;have:=of_decide_eq_true d.symm;omega)
     refine aaw a7 I (b6.congr ad) λE' a' w' a8 ap=>ih _ a' w' E' (by simpa using y) ab a4 (hE.trans a8) al ?_
     rw[hL];exact ap.weak an rfl λ_ _ e=>.inr e
   .
    refine absurd (λj hj=>?_) x;have d:=afd.1 S i (by simpa using z);simp only[afM,decide_eq_true_eq]at d;rcases d with W|W
    .omega
    .have h3:=afd.1 W j (by simp;omega);exact fD c g l i j z s h3
end
inductive Kd where
 |pure
 |read (n f:Nat)
 |eff
 deriving Inhabited,DecidableEq
abbrev oi:=Nat×aj×Tm×AV
def Ea(P:Program)(L:List Blk):List oi->Prop
 |[]=>True
 |(_,o,T,v)::h=>AQ P o T L v/\Ea P L h
def JG:List oi->List oi
 |[]=>[]
 |(0,_)::h=>JG h
 |(1,_)::h=>JG h
 |(n+2,y)::h=>(n+1,y)::JG h
def Vs(f:Nat)(o:aj)(T:Tm)(v:AV)(H:List oi):List oi :=
 match f with
 |0=>H
 |f+1=>(f+1,o,T,v)::H
def AG(P:Program)(K:Tm->List Blk->Prop):List (aj×Kd)->List (List Blk)->List oi->Tm->Prop
 |[],L::_,_,T=>K T L
 |(o,.pure)::r,L::Ls,H,T=>∃v,AQ P o T L v/\AG P K r (L::Ls) H (bC o.dst v T)
 |(o,.read n f)::r,L::Ls,H,T=>∃v,(∀L'∈(L::Ls).take (n+1),AQ P o T L' v)/\AG P K r (L::Ls) (Vs f o T v H) (bC o.dst v T)
 |(o,.eff)::r,L::Ls,H,T=>∃v L2,EQ P o T L v L2/\Ea P L2 H/\AG P K r (L2::L::Ls) (JG H) (bC o.dst v T)
 |_,[],_,_=>False
def nQ:List (aj×Kd)->Nat
 |[]=>0
 |(_,.eff)::r=>nQ r+1
 |_::r=>nQ r
def mem(Ns:List (List Blk))(m:Nat):List Blk:=Ns.reverse.getD m []
theorem y9{X Ls:List (List Blk)}{m:Nat}(h:m<Ls.length):mem (X++Ls) m=Ls.getD (Ls.length-1-m) []:=by
 simp only[mem,List.reverse_append,afh]
 grind
theorem R8{P:Program}{L:List Blk}:∀{H:List oi},Ea P L H->∀y∈H,AQ P y.2.1 y.2.2.1 L y.2.2.2
 |[],_,y,a=>by cases a
 | (f,o,T,v)::h,hr,y,a=>by
   rcases afp.1 a with rfl|a
   .exact hr.1
   .exact R8 hr.2 y a
theorem Mh:∀{H:List oi}{y:oi},y∈H->1<y.1->(y.1-1,y.2)∈JG H
 |[],y,a,_=>by cases a
 | (0,z)::h,y,a,h1=>by
   rcases afp.1 a with rfl|a
   .omega
   .show(y.1-1,y.2)∈JG h;exact Mh a h1
 | (1,z)::h,y,a,h1=>by
   rcases afp.1 a with rfl|a
   .omega
   .show(y.1-1,y.2)∈JG h;exact Mh a h1
 | (n+2,z)::h,y,a,h1=>by
   rcases afp.1 a with rfl|a
   .simp[JG]
   .exact agB _ (Mh a h1)
def W4(P:Program)(o:aj)(T:Tm)(Ns:List (List Blk))(v:AV)(c:Nat):Kd->Prop
 |.pure=>AQ P o T (mem Ns c) v
 |.read n f=>∀m,c-n<=m->m<=c+f->m<Ns.length->AQ P o T (mem Ns m) v
 |.eff=>EQ P o T (mem Ns c) v (mem Ns (c+1))
theorem aaS{P:Program}{K:Tm->List Blk->Prop}:∀(qk:List (aj×Kd)) (Ls:List (List Blk)) (H:List oi) (T:Tm) (k:Nat),AG P K qk Ls H T ->
  ∃(tr:List AV) (X:List (List Blk)),tr.length=qk.length/\X.length=nQ qk /\
   (∀y∈H,∀m,Ls.length<=m->m<Ls.length+y.1->m<(X++Ls).length->AQ P y.2.1 y.2.2.1 (mem (X++Ls) m) y.2.2.2) /\
   (∀i o kd v,qk[i]?=some (o,kd)->tr[i]?=some v->W4 P o (TL T (qk.map (·.1)) tr k λj=>decide (j<k+i)) (X++Ls) v (Ls.length-1+nQ (qk.take i)) kd) /\
   K (TL T (qk.map (·.1)) tr k λ_=>true) (mem (X++Ls) ((X++Ls).length-1)):=by
 intro qk;induction qk with
 | nil =>
   intro Ls H T k h;cases Ls with
   |nil=>exact h.elim
   | cons L Ls =>
     refine⟨[],[],rfl,rfl,λy _ m s _ G=>?_,λi o kd v a=>by simp at a,?_⟩
     .grind
     .rw[afH,<- afH (L::Ls),y9 ah4];have E:K T L:=h;simpa[TL]using E
 | cons q qk ih =>
   intro Ls H T k h;cases Ls with
   |nil=>rcases q with⟨o,_|_|_⟩<;>exact h.elim
   | cons L Ls =>
     obtain⟨o,kd⟩:=q;have r:∀(v:AV) (tr:List AV),TL T (((o,kd)::qk).map (·.1)) (v::tr) k (λj=>decide (j<k+0))=T:=λv tr=>by
      have e:TL T (((o,kd)::qk).map (·.1)) (v::tr) k (λj=>decide (j<k+0))=TL T (((o,kd)::qk).map (·.1)) (v::tr) k (λ_=>false):=S6 λj _=>ah4
      rw[e];exact UK _ _ _ _
     have l:∀(v:AV) (tr:List AV) (i:Nat),TL T (((o,kd)::qk).map (·.1)) (v::tr) k (λj=>decide (j<k+(i+1)))=TL (bC o.dst v T) (qk.map (·.1)) tr (k+1) (λj=>decide (j<k+1+i)):=λv tr i=>by
      simp only[afe,TL]
      grind
     have g:∀(v:AV) (tr:List AV),TL T (((o,kd)::qk).map (·.1)) (v::tr) k (λ_=>true)=TL (bC o.dst v T) (qk.map (·.1)) tr (k+1) (λ_=>true):=λv tr=>by rfl
     cases kd with
     | pure =>
       obtain⟨v,s,x⟩:=h;obtain⟨tr,X,g1,t,g3,g4,w⟩:=ih _ _ _ (k+1) x;refine⟨v::tr,X,by simp[g1],t,g3,λi p kd u a b=>?_,by rw[g];exact w⟩;cases i with
       | zero =>
         simp only[afW,aeZ,afb]at a b;obtain⟨rfl,rfl⟩:=a;subst b;rw[r];simp only[agF,nQ,agk,W4];rw[y9 ah4];simpa using s
       | succ i =>
         rw[l];exact g4 i p kd u (by simpa using a) (by simpa using b)
     | read n f =>
       obtain⟨v,s,x⟩:=h;obtain⟨tr,X,g1,t,g3,g4,w⟩:=ih _ _ _ (k+1) x;have D:∀y∈H,y∈Vs f o T v H:=λy d=>by
        unfold Vs;split
        .exact d
        .exact agB _ d
       refine⟨v::tr,X,by simp[g1],t,λy d=>g3 y (D y d),λi p kd u a b=>?_,by rw[g];exact w⟩;cases i with
       | zero =>
         simp only[afW,aeZ,afb]at a b;obtain⟨rfl,rfl⟩:=a;subst b;rw[r];simp only[agF,nQ,agk,W4];intro m B A z;rcases aft m (L::Ls).length with c|c
         .rw[y9 c];refine s _ ?_;have C:(L::Ls).length-1-m<(L::Ls).length:=ah3;rw[afh,afn C,agj];rw[List.mem_take_iff_getElem];refine⟨(L::Ls).length-1-m,?_,rfl⟩;simp only[afg]at B c C⊢;omega
         .cases f with
          |zero=>simp only[afg]at A c;omega
          |succ f=>exact g3 (f+1,o,T,v) (by simp[Vs]) m c (by simp only[afg]at A c⊢;omega) z
       | succ i =>
         rw[l];exact g4 i p kd u (by simpa using a) (by simpa using b)
     | eff =>
       obtain⟨v,L2,s,hr,x⟩:=h;obtain⟨tr,X,g1,t,g3,g4,w⟩:=ih _ _ _ (k+1) x;have e:(X++[L2])++(L::Ls)=X++(L2::L::Ls):=ah4;refine⟨v::tr,X++[L2],by simp[g1],by simp[nQ,t],λy d m B A z=>?_,λi p kd u a b=>?_,by rw[g,e];exact w⟩
       .rw[e]at z⊢;rcases Nat.eq_or_lt_of_le B with c|c
        .subst c;rw[y9 ah4];have:=R8 hr y d;simpa using this
        .exact g3 _ (Mh d ah3) m (by simp only[afg]at c⊢;omega) (by simp only[afg]at A⊢;omega) z
       rw[e];cases i with
       | zero =>
         simp only[afW,aeZ,afb]at a b;obtain⟨rfl,rfl⟩:=a;subst b;rw[r];simp only[agF,nQ,agk,W4];rw[y9 (by simp only[afg];omega),y9 (by simp only[afg];omega)];simpa using s
       | succ i =>
         rw[l];have:=g4 i p kd u (by simpa using a) (by simpa using b);have F:(L2::L::Ls).length-1+nQ (qk.take i)=(L::Ls).length-1+nQ (((o,Kd.eff)::qk).take (i+1)):=by simp only[afg,ag1,nQ];omega
         rw[F]at this;exact this
def LOp.pureB:LOp->Bool
 |.mv _|.pick .. |.build .. |.bin .. |.un .. |.faddr .. |.extract .. |.mkfn .. |.conv .. |.sconv .. |.eqk .. |.eq2 ..=>true
 |_=>false
theorem abA{P:Program}{o:aj}{T:Tm}{L:List Blk}(b:o.op.pureB=true)(h:AQ P o T L v):AQ P o T L' v:=by
 have key:∀{c:Prop}{av:AV}{L2:List Blk},ak T L o.op=some (c,av,L2)->ak T L' o.op=some (c,av,L'):=λ{c av L2} f=>by
  have e:ak T L' o.op=(ak T L o.op).map λx=>(x.1,x.2.1,L'):=by obtain⟨d,op,g⟩:=o;cases op<;>simp only[LOp.pureB,afm]at b<;>simp only[ak]<;>(repeat' split)<;>simp[Option.map_map,Function.comp_def]
  simp[*]
 have a:AQv P o T L v->AQv P o T L' v:=λa=>by
  unfold AQv at a⊢;obtain⟨d,op,g⟩:=o;cases op<;>simp only[LOp.pureB,afm]at b<;>simp only at a⊢<;>(
   split at a
   .rename_i c av L2 f;rw[key f];exact⟨a.1,a.2.1,rfl⟩
   .exact a.elim)
 unfold AQ at h⊢;split at h;simp[*]
 grind
def dA:List (aj×Kd)->Nat->List Nat
 |[],_=>[]
 |(_,.eff)::r,k=>k::dA r (k+1)
 |_::r,k=>dA r (k+1)
theorem mS:∀(qk:List (aj×Kd)) (k:Nat),(dA qk k).length=nQ qk
 |[],_=>rfl
 |(_,.pure)::r,k=>mS r (k+1)
 |(_,.read _ _)::r,k=>mS r (k+1)
 |(_,.eff)::r,k=>by simp[dA,nQ,mS r (k+1)]
theorem Qr:∀(qk:List (aj×Kd)) (k i:Nat) (o:aj),qk[i]?=some (o,.eff)->(dA qk k)[nQ (qk.take i)]?=some (k+i)
 |[],_,i,o,h=>by simp at h
 |(p,kd)::r,k,0,o,h=>by obtain⟨rfl,rfl⟩:=h;rfl
 |(p,kd)::r,k,i+1,o,h=>by have a:=Qr r (k+1) i o (by simpa using h);rw[show k+1+i=k+(i+1)by omega]at a;cases kd<;>simpa[dA,nQ]using a
theorem Qq:∀(qk:List (aj×Kd)) (k e:Nat),e∈dA qk k->∃i o,e=k+i/\qk[i]?=some (o,.eff)
 |[],_,e,h=>by simp[dA]at h
 | (p,kd)::r,k,e,h=>by
   have go:e∈dA r (k+1)->∃i o,e=k+i/\((p,kd)::r)[i]?=some (o,.eff):=λa=>by
    obtain⟨i,o,rfl,b⟩:=Qq r (k+1) e a
    grind
   cases kd with
   |pure=>exact go h
   |read _ _=>exact go h
   | eff =>
     rcases afp.1 h with rfl|h
     .simp
     simp_all
def MO(tbl:List Nat)(qk:List (aj×Kd)):Bool :=
 let es:=dA qk 0
 ((List.range es.length).all λj'=>(List.range j').all λj=>(tbl.getD (es.getD j' 0) 0).testBit (es.getD j 0)) &&
 qk.zipIdx.all λ((o,kd),i)=>match kd with
  |.pure=>o.op.pureB
  |.eff=>true
  | .read n f=>let c:=nQ (qk.take i)
    (List.range es.length).all λj=>(!decide (j<c-n) ||(tbl.getD i 0).testBit (es.getD j 0))&&(!decide (c+f<=j) ||(tbl.getD (es.getD j 0) 0).testBit i)
section
variable {P:Program}{r:Option Nat}{w0:World}{S0:SB}{N:Nat}{own:Nat->Nat}{ops:Array Oper}{L:List Blk}
theorem UH{A:List aj}{n:Nat}(C:bt P N own ops (List.range ops.size)=some A)(M:GB ops A n=true){qk:List (aj×Kd)}{ts:List aj}(p:A=qk.map (·.1)++ts)(hn:qk.length=n)(Y:MO (om ops.toList []) qk=true){K:Tm->List Blk->Prop}{T:Tm}{Q:Exit->Act->World->Prop}{E0:Env}(h:AG P (mN P K ts) qk [L] [] T)(hQ:∀E' T' L' V w',E0.le E'->K T' L'->St w0 S0 N E' T' L' V w'->Q .normal V w')(a:Act)(w:World)(E:Env)(hE:E0.le E)(J:St w0 S0 N E T L a w):
  wpAnyIn (fB r) 0 P .any ops Q ops.size (Array.replicate ops.size false) a w:=by
 obtain⟨tr,X,g1,g2,-,g4,Z⟩:=aaS qk [L] [] T 0 h;have b:∀i,(Array.replicate ops.size false).getD i false=false:=λi=>by
  rw[agl,Array.getElem?_replicate]
  grind
 simp only[MO,ae7]at Y;obtain⟨H,R⟩:=Y;have t:=mS qk 0;have S:∀e∈dA qk 0,∃o,qk[e]?=some (o,.eff):=λe G=>by obtain⟨i,o,rfl,D⟩:=Qq qk 0 e G;simp[*]
 have s:(X++[L]).length=nQ qk+1:=by simp[g2]
 refine V1 (T:=T) (K:=K) (qs:=qk.map (·.1)) (ts:=ts) (tr:=tr) (es:=dA qk 0) (Ms:=mem (X++[L])) C M p (by simpa using hn) (λe G=>?_) (λj j' e e' h1 D h3=>?_) (by simpa using g1) (λi o v z hv=>?_) ?_ hQ ops.size _ a w E ah4 (by simp[aht]) (λi o W=>by rw[b]at W;cases W) hE (λi _=>b i) ?_
 grind
 have l2:j'<(dA qk 0).length:=(aeY.1 D).1;have:=afd.1 (afd.1 H j' (by simpa using l2)) j (by simpa using h3);simp_all;rw[afS,afr]at z;obtain⟨⟨I,kd⟩,z,rfl⟩:=z;have F:=g4 i I kd v z hv;simp only[List.length_singleton,agG,agm]at F;have u:=afd.1 R ((I,kd),i) (by rw[agY];simpa using z);have d:kd≠.eff->i∉dA qk 0:=λU G=>by obtain⟨o2,D⟩:=S i G;rw[z]at D;cases D;exact U rfl
 cases kd with
 | eff =>
   refine .inl ⟨nQ (qk.take i),?_,F⟩;simpa using Qr qk 0 i I z
 |pure=>exact .inr ⟨d ah4,λm _ _ _=>abA (by simpa using u) F⟩
 | read n f =>
   refine .inr ⟨d ah4,λm hm p1 p2=>?_⟩;simp only at u;have B:=λj (hj:j<(dA qk 0).length)=>afd.1 u j (by simpa using hj)
   have ab:nQ (qk.take i)<=(dA qk 0).length:=by
    have:∀(l:List (aj×Kd)) (i:Nat),nQ (l.take i)<=nQ l:=by
     intro l;induction l with
     |nil=>intro i;simp
     | cons q l ih =>
       intro i;cases i with
       |zero=>simp[nQ]
       |succ i=>obtain⟨o,_|_|_⟩:=q<;>simp only[ag1,nQ]<;>have:=ih i<;>omega
    rw[t];exact this qk i
   refine F m ?_ ?_ (by rw[s];omega)
   .rcases aft m (nQ (qk.take i)-n)with k|y
    .have hme:m<(dA qk 0).length:=ah3;have:=B m hme;simp only[ae7,afM,afA,decide_eq_false_iff_not]at this;have O:=p2 m _ (afn hme) (ae0 _);rcases this.1 with c|c
     .exact absurd k c
     .rw[afh (l:=dA qk 0),afn hme]at c;simp only[agj]at c;rw[O]at c;cases c
    .exact y
   .rcases aft (nQ (qk.take i)+f) m with k|y
    .have hme:nQ (qk.take i)+f<(dA qk 0).length:=ah3;have:=B _ hme;simp only[ae7,afM,afA,decide_eq_false_iff_not]at this;have O:=p1 _ _ (afn hme) k;rcases this.2 with c|c
     .exact absurd (ae0 _) c
     .rw[afh (l:=dA qk 0),afn hme]at c;simp only[agj]at c;rw[O]at c;cases c
    .exact y
 rw[s]at Z;rw[t];simpa using Z
 .have e:TL T (qk.map (·.1)) tr 0 (λj=>(Array.replicate ops.size false).getD j false)=T:=by refine Eq.trans (S6 (g:=λ_=>false) λj _=>b _) (UK _ tr T 0)
  have e2:done (dA qk 0) (Array.replicate ops.size false)=0:=ahK.2 λx _=>by rw[b];simp
  rw[e,e2,y9 ah4];simpa using J
end
inductive SOp where
 |op (o:aj)
 |grp (g:Option (Nat×Bool)) (t:Nat) (b:Bool) (body:List SOp) (d:Nat) (x:Opd)
 deriving Inhabited
def df(g:Option (Nat×Bool))(t:Nat)(b:Bool)(d:Nat)(x:Opd):aj :=
 ⟨some d,.pick (.tmp t) (if b then x else .av (.bool true)) (if b then .av (.bool false)else x),g⟩
mutual
def SOp.flat:SOp->List aj
 |.op o=>[o]
 |.grp g t b body d x=>SOp.flatL body++[df g t b d x]
def SOp.flatL:List SOp->List aj
 |[]=>[]
 |s::r=>SOp.flat s++SOp.flatL r
end
def aY(l:List aj):List Nat:=l.filterMap (·.dst)
def gds:List SOp->List Nat
 |[]=>[]
 |.op _::r=>gds r
 |.grp _ _ _ body _ _::r=>aY (SOp.flatL body)++gds r
def bK:SOp->List Nat
 |.op o=>o.dst.toList
 |.grp _ _ _ _ d _=>[d]
mutual
def okO(g:Nat×Bool)(seen:List Nat):SOp->Bool
 |.op o=>decide (o.guard=some g)
 |.grp g' t b body d x=>decide (g'=some g)&&seen.contains t && !(aY (SOp.flatL body)).contains t && !(aY (SOp.flatL body)).contains g.1&&okB (t,b) [] body
def okB(g:Nat×Bool)(seen:List Nat):List SOp->Bool
 |[]=>true
 |s::r=>okO g seen s&&(bK s).all (λd => !(gds r).contains d&&d != g.1)&&okB g (bK s++seen) r
end
def okS:List SOp->Bool
 |[]=>true
 |.op o::r=>o.dst.toList.all (λd => !(gds r).contains d)&&okS r
 |.grp g t b body d x::r=>decide (g=none) && !(aY (SOp.flatL body)).contains t&&okB (t,b) [] body && !(gds r).contains d&&okS r
def mrg(b p q:Bool):Bool:=if b then p&&q else p ||q
def aaN(P:Program)(f:FuncId)(args:List AV)(L:List Blk)(k:AV->Prop):Prop:=∃v,ac P f args L (λav L'=>av=v/\L'=L)/\k v
theorem bu{P:Program}{f:FuncId}{args:List AV}{L:List Blk}{k:AV->Prop}(h:ac P f args L (λav L'=>av=v/\L'=L))(a:k v):aaN P f args L k:=⟨v,h,a⟩
def IsB:Option AV->Bool->Prop:=λo q=>o=some (.bool q)
theorem oB{q:Bool}:IsB (some (.bool q)) q:=rfl
def IsX(x:Opd)(q:Bool)(T:Tm):Prop:=IsB (evX T x) q
def aaK(k:Tm->Prop)(d:Option Nat)(T:Tm)(v:AV):Prop:=k (bC d v T)
def aeH(P:Program)(f:FuncId)(L:List Blk)(k:AV->Prop):Option (List AV)->Prop
 |some args=>aaN P f args L k
 |none=>False
def W5(P:Program)(L:List Blk)(k:AV->Prop):Option AV->Option (List AV)->Prop
 |some (.func g caps),some args=>aaN P g (args++caps) L k
 |_,_=>False
def aeD(L:List Blk)(k:AV->Prop):Option (Prop×AV×List Blk)->Prop
 |some (c,av,L')=>c/\L'=L/\k av
 |none=>False
def GOp(P:Program)(L:List Blk)(o:aj)(k:Tm->Prop)(T:Tm):Prop :=
 match o.op with
 |.call f xs=>aeH P f L (aaK k o.dst T) (iR T xs)
 |.callv f xs=>W5 P L (aaK k o.dst T) (evX T f) (iR T xs)
 |lo=>aeD L (aaK k o.dst T) (ak T L lo)
mutual
def GL(P:Program)(L:List Blk):List SOp->(Tm->Prop)->Tm->Prop
 |[],k,T=>k T
 |s::r,k,T=>GO P L s (GL P L r k) T
def GO(P:Program)(L:List Blk):SOp->(Tm->Prop)->Tm->Prop
 |.op o,k,T=>GOp P L o k T
 | .grp _ t b body d x,k,T=>match ar T t with
   |some (.bool p)=>∃q,(p=b->GL P L body (IsX x q) T)/\k ((d,.bool (mrg b p q))::T)
   |_=>False
end
def GQ(P:Program)(L:List Blk)(b:Bool)(body:List SOp)(d:Nat)(x:Opd)(k:Tm->Prop)(T:Tm)(p:Bool):Prop :=
 ∃q,(p=b->GL P L body (IsX x q) T)/\k ((d,.bool (mrg b p q))::T)
def GG(P:Program)(L:List Blk)(b:Bool)(body:List SOp)(d:Nat)(x:Opd)(k:Tm->Prop)(T:Tm):Option AV->Prop
 |some (.bool p)=>GQ P L b body d x k T p
 |_=>False
theorem adY{P:Program}{L:List Blk}{k:Tm->Prop}{T:Tm}:GL P L [] k T=k T:=by rw[GL]
theorem aeG{P:Program}{L:List Blk}{o:aj}{r:List SOp}{k:Tm->Prop}{T:Tm}:GL P L (.op o::r) k T=GOp P L o (GL P L r k) T:=by rw[GL,GO]
theorem adZ{P:Program}{L:List Blk}{g:Option (Nat×Bool)}{t d:Nat}{b:Bool}{body r:List SOp}{x:Opd}{k:Tm->Prop}{T:Tm}:GL P L (.grp g t b body d x::r) k T=GG P L b body d x (GL P L r k) T (ar T t):=by rw[GL,GO];rfl
theorem acx{P:Program}{L:List Blk}{d:Nat}{b p:Bool}{body:List SOp}{x:Opd}{k:Tm->Prop}{T:Tm}:GG P L b body d x k T (some (.bool p))=GQ P L b body d x k T p:=rfl
theorem aeF{P:Program}{L:List Blk}{d:Nat}{body:List SOp}{x:Opd}{k:Tm->Prop}{T:Tm}:GQ P L true body d x k T false=k ((d,.bool false)::T):=by simp[GQ,mrg]
theorem aeE{P:Program}{L:List Blk}{d:Nat}{body:List SOp}{x:Opd}{k:Tm->Prop}{T:Tm}:GQ P L false body d x k T true=k ((d,.bool true)::T):=by simp[GQ,mrg]
def SL(P:Program):List SOp->(Tm->List Blk->Prop)->Tm->List Blk->Prop
 |[],K,T,L=>K T L
 | .op o::r,K,T,L=>match o.guard with
   |none=>AOp P o (SL P r K) T L
   |some (t,b)=>Grd P o (SL P r K) b T L (ar T t)
 |.grp _ t b body d x::r,K,T,L=>GG P L b body d x (λT'=>SL P r K T' L) T (ar T t)
def SK(P:Program)(r:List SOp)(K:Tm->List Blk->Prop)(L:List Blk)(T:Tm):Prop:=SL P r K T L
theorem aeA{P:Program}{r:List SOp}{K:Tm->List Blk->Prop}{L:List Blk}{T:Tm}:SK P r K L T=SL P r K T L:=rfl
theorem adU{P:Program}{K:Tm->List Blk->Prop}{L:List Blk}{T:Tm}:SL P [] K T L=K T L:=rfl
theorem aez{P:Program}{d:Option Nat}{op:LOp}{r:List SOp}{K:Tm->List Blk->Prop}{L:List Blk}{T:Tm}:SL P (.op ⟨d,op,none⟩::r) K T L=AOp P ⟨d,op,none⟩ (SL P r K) T L:=rfl
theorem adT{P:Program}{d:Option Nat}{op:LOp}{t:Nat}{b:Bool}{r:List SOp}{K:Tm->List Blk->Prop}{L:List Blk}{T:Tm}:SL P (.op ⟨d,op,some (t,b)⟩::r) K T L=Grd P ⟨d,op,some (t,b)⟩ (SL P r K) b T L (ar T t):=rfl
theorem adV{P:Program}{g:Option (Nat×Bool)}{t d:Nat}{b:Bool}{body r:List SOp}{x:Opd}{K:Tm->List Blk->Prop}{L:List Blk}{T:Tm}:SL P (.grp g t b body d x::r) K T L=GG P L b body d x (SK P r K L) T (ar T t):=rfl
def sel:List Bool->Tm->Tm
 |[],T=>T
 |true::m,x::T=>x::sel m T
 |false::m,_::T=>sel m T
 |_::_,[]=>[]
theorem Wp{T:Tm}:sel [] T=T:=by cases T<;>rfl
theorem acK{m:List Bool}{x:Nat×AV}{T:Tm}:sel (true::m) (x::T)=x::sel m T:=rfl
theorem acL{m:List Bool}{x:Nat×AV}{T:Tm}:sel (false::m) (x::T)=sel m T:=rfl
section
variable {P:Program}{ro:Option Nat}{w0:World}{S0:SB}{N:Nat}
def Fr(ds:List Nat)(T:Tm):Prop:=∀d∈ds,ar T d=none
theorem nT{d:Option Nat}{v:AV}{T:Tm}{t:Nat}(h:d≠some t):ar (bC d v T) t=ar T t:=by
 cases d with
 |none=>rfl
 |some d=>simp only[bC,ar];rw[if_neg (λe=>h (by rw[e]))]
theorem iE{own:Nat->Nat}{ops:Array Oper}:∀{l m:List aj}{is:List Nat},bt P N own ops is=some (l++m)->∃b a,is=b++a/\bt P N own ops b=some l/\bt P N own ops a=some m
 |[],m,is,h=>⟨[],is,rfl,rfl,h⟩
 | o::l,m,is,h=>by
   cases is with
   |nil=>simp[bt]at h
   | cons i is =>
     simp only[bt]at h;split at h<;>try cases h
     rename_i f g e c;obtain⟨b,a,rfl,d,h4⟩:=iE (l:=l) (m:=m) c;refine⟨i::b,a,rfl,?_,h4⟩;simp only[bt,e,d]
theorem mB{own:Nat->Nat}{ops:Array Oper}{o:aj}{is:List Nat}(h:bt P N own ops is=some [o]):∃i,is=[i]/\mR P N own ops i=some o:=by
 cases is with
 |nil=>simp[bt]at h
 | cons i is =>
   simp only[bt]at h;split at h<;>try cases h
   rename_i c d b a;cases is with
   |nil=>exact⟨i,rfl,b⟩
   | cons j is =>
     simp only[bt]at a;split at a<;>cases a
theorem Pi{own:Nat->Nat}{ops:Array Oper}{K:Tm->List Blk->Prop}{Q:Exit->Act->World->Prop}{i:Nat}{f:aj}{rest:List Nat}(v:mR P N own ops i=some f){T:Tm}{L:List Blk}{E:Env}{a:Act}{w:World}(d:St w0 S0 N E T L a w)(l:f.guard=none\/∃t b,f.guard=some (t,b)/\ar T t=some (.bool b))(h:AOp P f K T L)(u:∀E' T' L' m w',E.le E'->K T' L'->St w0 S0 N E' T' L' m w'->wpOpsIn (fB ro) 0 P ops Q rest m w'):wpOpsIn (fB ro) 0 P ops Q (i::rest) a w:=by
 obtain⟨o,s,g,c,hd,k⟩:=iO v;obtain⟨A,p,y⟩:=f;simp only at g c k l;subst c;simp only[wpOpsIn,s];have q:Region.wanted o (yielded ops a.tmps)=true:=by rcases k with⟨g1,n⟩|⟨j,b,t,g1,n,g3,g4⟩;simp[Region.wanted,g1];subst g4;rcases l with l|⟨t',z,e,x⟩;cases l;cases e;have r:=kM (E:=E) (T:=T) (a:=a) (ops:=ops) d.2.1 n (by rw[d.2.2.1];exact g3);simp[Region.wanted,g1,r.1 b x]
 rw[if_pos q];exact Hb g hd d h u
theorem PW{own:Nat->Nat}{ops:Array Oper}{Q:Exit->Act->World->Prop}{i:Nat}{h:aj}{rest:List Nat}(s:mR P N own ops i=some h){T:Tm}{L:List Blk}{E:Env}{a:Act}{w:World}(d:St w0 S0 N E T L a w){t:Nat}{b:Bool}(e:h.guard=some (t,b))(g:ar T t=some (.bool (!b))\/ar T t=some (.tup []))(n:∀p,St w0 S0 N E (bC h.dst (.tup []) T) L p w->wpOpsIn (fB ro) 0 P ops Q rest p w):wpOpsIn (fB ro) 0 P ops Q (i::rest) a w:=by
 obtain⟨o,r,k,c,hd,f⟩:=iO s;obtain⟨y,u,v⟩:=h;simp only at k c f e n;subst c;simp only[wpOpsIn,r];have q:Region.wanted o (yielded ops a.tmps)=false:=by rcases f with⟨g1,l⟩|⟨j,x,t',g1,l,g3,g4⟩;rw[l]at e;cases e;rw[g4]at e;cases e;have m:=kM (E:=E) (T:=T) (a:=a) (ops:=ops) d.2.1 l (by rw[d.2.2.1];exact g3);rcases g with g|g;simp[Region.wanted,g1,m.1 _ g];simp[Region.wanted,g1,m.2 g]
 rw[if_neg (by simp[q])];exact⟨λ_ _=>trivial,n _ (Ka d hd)⟩
def Ext(ds:List Nat)(T T':Tm):Prop:=∀t v,t∉ds->ar T t=some v->ar T' t=some v
mutual
theorem ac9{own:Nat->Nat}{ops:Array Oper}{Q:Exit->Act->World->Prop}{L:List Blk}{E:Env}{w:World}(s:SOp){g:Nat×Bool}{seen:List Nat}{is rest:List Nat}{T:Tm}{a:Act}(c:okO g seen s=true)(z:bt P N own ops is=some s.flat)(p:St w0 S0 N E T L a w)(H:ar T g.1=some (.bool (!g.2))\/ar T g.1=some (.tup []))(l:∀d∈seen,ar T d=some (.tup []))(y:∀T' n,Ext (aY s.flat) T T'->(∀d,ar T d=some (.tup [])->ar T' d=some (.tup []))->(∀d∈bK s,ar T' d=some (.tup []))->St w0 S0 N E T' L n w->wpOpsIn (fB ro) 0 P ops Q rest n w):wpOpsIn (fB ro) 0 P ops Q (is++rest) a w:=by
 have q:∀(u:Option Nat) (T:Tm) (d:Nat),ar T d=some (.tup [])->ar (bC u (.tup []) T) d=some (.tup []):=λu T d h=>by
  cases u with
  |none=>exact h
  | some u =>
    simp only[bC,ar];split
    .rfl
    .exact h
 cases s with
 | op o =>
   simp only[SOp.flat]at z y;obtain⟨i,rfl,B⟩:=mB z;simp only[okO,decide_eq_true_eq]at c;refine PW B p (t:=g.1) (b:=g.2) c H λn A=>y _ n (λt v m D=>?_) (q _ _) (λd hd=>?_) A
   .rw[nT (λe=>m (by simp[aY,e]))];exact D
   .simp only[bK,ahu]at hd;rw[hd];simp[bC,ar]
 | grp g' t b body d x =>
   simp only[okO,ae7,decide_eq_true_eq,ahL,afA,afX,decide_eq_false_iff_not]at c;obtain⟨⟨⟨⟨F,m⟩,I⟩,G⟩,J⟩:=c;simp only[SOp.flat]at z y;obtain⟨S,R,rfl,B,K⟩:=iE z;obtain⟨i,rfl,O⟩:=mB K;rw[afa];refine Pa body J B p (.inr (l t (by simpa using m))) ah4 λT' n j f r=>?_
   refine PW O r (t:=g.1) (b:=g.2) (by simp[df,F]) ?_ λC k=>y _ C (λt v m D=>?_) (λd hd=>q _ _ _ (f d hd)) (λd hd=>?_) k
   .exact H.imp (λh=>j _ _ G h) (λh=>f _ h)
   .rw[nT (λe=>m (by simp only[df]at e;simp[aY,df,e]))];exact j t v (λM=>m (by simp only[aY,agn,ae2];exact .inl M)) D
   .simp only[bK,afl]at hd;subst hd;simp[df,bC,ar]
theorem Pa{own:Nat->Nat}{ops:Array Oper}{Q:Exit->Act->World->Prop}{L:List Blk}{E:Env}{w:World}(l:List SOp){g:Nat×Bool}{seen:List Nat}{is rest:List Nat}{T:Tm}{a:Act}(m:okB g seen l=true)(j:bt P N own ops is=some (SOp.flatL l))(k:St w0 S0 N E T L a w)(G:ar T g.1=some (.bool (!g.2))\/ar T g.1=some (.tup []))(e:∀d∈seen,ar T d=some (.tup []))(p:∀T' q,Ext (aY (SOp.flatL l)) T T'->(∀d,ar T d=some (.tup [])->ar T' d=some (.tup []))->St w0 S0 N E T' L q w->wpOpsIn (fB ro) 0 P ops Q rest q w):wpOpsIn (fB ro) 0 P ops Q (is++rest) a w:=by
 cases l with
 | nil =>
   simp only[SOp.flatL]at j p;have:is=[]:=by
    cases is with
    |nil=>rfl
    | cons i is =>
      simp only[bt]at j;split at j<;>cases j
   subst this;exact p T a (λ_ _ _ h=>h) (λ_ h=>h) k
 | cons s r =>
   simp only[okB,ae7,afd,afA,bne_iff_ne]at m;obtain⟨⟨u,F⟩,O⟩:=m;simp only[SOp.flatL]at j p;obtain⟨S,R,rfl,h4,K⟩:=iE j;rw[afa];refine ac9 s u h4 k G e λT' q D A H n=>?_
   have y:ar T' g.1=some (.bool (!g.2))\/ar T' g.1=some (.tup []):=by
    by_cases c:g.1∈aY s.flat
    .cases s with
     | op o =>
       simp only[aY,SOp.flat,List.filterMap_cons,List.filterMap_nil]at c;cases hd:o.dst with
       |none=>simp[hd]at c
       | some d =>
         simp[hd]at c;exact absurd c.symm (F d (by simp[bK,hd])).2
     | grp g' t b body d x =>
       simp only[okO,ae7,afA,afX,decide_eq_false_iff_not]at u;simp only[aY,SOp.flat,agn,ae2]at c;rcases c with c|c
       .exact absurd c u.1.2
       .simp[df]at c;exact absurd c.symm (F d (by simp[bK])).2
    .exact G.imp (D _ _ c) (A _)
   refine Pa r O K n y (λd hd=>?_) λC z M J f=>p C z (λt v B I=>?_) (λd hd=>J d (A d hd)) f
   .rcases ae2.1 hd with hd|hd
    .exact H d hd
    .exact A d (e d hd)
   .simp only[aY,agn,ae2,not_or]at B;exact M t v B.2 (D t v B.1 I)
end
theorem Fr.put{ds:List Nat}{T:Tm}{d:Option Nat}{v:AV}(h:Fr ds T)(hd:∀k,d=some k->k∉ds):Fr ds (bC d v T):=λk a=>by rw[nT (λe=>hd k e a)];exact h k a
mutual
theorem Z3(s:SOp):∀d∈gds [s],d∈aY s.flat:=by
 cases s with
 |op o=>simp[gds]
 | grp g t b body d x =>
   intro u a;simp only[gds,afq]at a;simp only[SOp.flat,aY,agn,ae2];exact .inl a
end
theorem Mc(s:SOp)(r:List SOp):gds (s::r)=gds [s]++gds r:=by cases s<;>simp[gds]
theorem Mb:∀(l:List SOp),∀d∈gds l,d∈aY (SOp.flatL l)
 |[],d,h=>by simp[gds]at h
 |s::r,d,h=>by rw[Mc,ae2]at h;simp only[SOp.flatL,aY,agn,ae2];exact h.imp (Z3 s d) (Mb r d)
theorem TJ(s:SOp):∀d∈bK s,d∈aY s.flat:=by
 cases s with
 | op o =>
   intro d hd;simp only[bK,ahu]at hd;simp[SOp.flat,aY,hd]
 | grp g t b body d x =>
   intro u a;simp only[bK,afl]at a;subst a;simp[SOp.flat,aY,df]
mutual
theorem adB{own:Nat->Nat}{ops:Array Oper}{Q:Exit->Act->World->Prop}{L:List Blk}(s:SOp){g:Nat×Bool}{seen:List Nat}{is rest:List Nat}{T:Tm}{a:Act}{E:Env}{w:World}{k:Tm->Prop}(hok:okO g seen s=true)(hl:bt P N own ops is=some s.flat)(hst:St w0 S0 N E T L a w)(hx:ar T g.1=some (.bool g.2))(hfr:∀d∈gds [s],ar T d=none)(h:GO P L s k T)(hK:∀E' T' a' w',E.le E'->k T'->Ext (bK s) T T'->(∀d,d∉bK s->ar T d=none->ar T' d=none)->St w0 S0 N E' T' L a' w'->wpOpsIn (fB ro) 0 P ops Q rest a' w'):wpOpsIn (fB ro) 0 P ops Q (is++rest) a w:=by
 cases s with
 | op o =>
   simp only[SOp.flat]at hl;obtain⟨i,rfl,h1⟩:=mB hl;simp only[okO,decide_eq_true_eq]at hok;simp only[GO]at h;have ext:∀v,Ext (bK (.op o)) T (bC o.dst v T):=λv t x ht hv=>by rw[nT (λe=>ht (by simp[bK,e]))];exact hv
   have fre:∀v d,d∉bK (.op o)->ar T d=none->ar (bC o.dst v T) d=none:=λv d hd hn=>by rw[nT (λe=>hd (by simp[bK,e]))];exact hn
   have hA:AOp P o (λT' L'=>L'=L/\∃v,T'=bC o.dst v T/\k T') T L:=by
    obtain⟨d,op,gd⟩:=o;have call:∀{f:FuncId}{args:List AV},aaN P f args L (aaK k d T)->ac P f args L (Kon (λT' L'=>L'=L/\∃v,T'=bC d v T/\k T') d T):=λ{f args} ⟨v,h1,h2⟩ =>
     h1.mono λav L' ⟨e1,e2⟩=>by subst e1;subst e2;exact⟨rfl,av,rfl,h2⟩
    simp only[GOp]at h;simp only[AOp];cases op
    case call f xs =>
     simp only at h⊢;cases he:iR T xs with
     |none=>rw[he]at h;exact h.elim
     |some args=>rw[he]at h;exact call h
    case callv f xs =>
     simp only at h⊢;cases hf:evX T f with
     |none=>rw[hf]at h;exact h.elim
     | some u =>
       rw[hf]at h;cases he:iR T xs with
       |none=>rw[he]at h;cases u<;>exact h.elim
       | some args =>
         rw[he]at h;cases u<;>simp only[W5]at h;exact call h
    all_goals
     simp only at h⊢;generalize ak T L _=r at h⊢;cases r with
     |none=>exact h.elim
     | some r =>
       obtain⟨c,av,L'⟩:=r;exact⟨h.1,h.2.1,av,rfl,h.2.2⟩
   refine Pi h1 hst (.inr ⟨g.1,g.2,hok,hx⟩) hA λE' T' L' a' w' hle ⟨e1,v,e2,hk⟩ hst'=>?_
   subst e1;subst e2;exact hK E' _ a' w' hle hk (ext v) (fre v) hst'
 | grp g' t b body d x =>
   simp only[okO,ae7,decide_eq_true_eq,afA,afX,decide_eq_false_iff_not]at hok;obtain⟨⟨⟨⟨hg',ht⟩,htb⟩,hgb⟩,hb⟩:=hok;simp only[SOp.flat]at hl;obtain⟨js,ks,rfl,h1,h2⟩:=iE hl;obtain⟨i,rfl,h3⟩:=mB h2;rw[afa];simp only[GO]at h;have hfr':Fr (aY (SOp.flatL body)) T:=λd' hd'=>hfr d' (by simp[gds,hd'])
   have fin:∀{E':Env}{T':Tm}{a':Act}{w':World}(p q:Bool),E.le E'->St w0 S0 N E' T' L a' w'->Ext (aY (SOp.flatL body)) T T'->ar T t=some (.bool p)->(p=b->evX T' x=some (.bool q))->k ((d,.bool (mrg b p q))::T)->wpOpsIn (fB ro) 0 P ops Q ([i]++rest) a' w':=λ{E' T' a' w'} p q hle hst' hext hp hq hk=>by
    have hv:ak T' L (.pick (.tmp t) (if b then x else .av (.bool true)) (if b then .av (.bool false)else x))=some (True,.bool (mrg b p q),L):=by have ht':ar T' t=some (.bool p):=hext _ _ htb hp;cases b<;>cases p<;>simp[ak,evX,ht',mrg]<;>exact hq rfl
    refine Pi h3 hst' (.inr ⟨g.1,g.2,by simp[df,hg'],hext _ _ hgb hx⟩) (K:=λT'' L''=>T''=(d,.bool (mrg b p q))::T'/\L''=L) ?_ λE'' T'' L'' a'' w'' hle' ⟨e1,e2⟩ hst''=>?_
    .simp only[df,AOp,hv,Res,bC,and_self]
    .subst e1;subst e2;refine hK E'' ((d,.bool (mrg b p q))::T) a'' w'' (hle.trans hle') hk (λu v hu hv=>?_) (λu hu hn=>?_) ⟨hst''.1,hst''.2.1.weak λu v hu=>?_,hst''.2.2⟩
     .simp only[bK,afl]at hu;simp only[ar];rw[if_neg (Ne.symm hu)];exact hv
     .simp only[bK,afl]at hu;simp only[ar];rw[if_neg (Ne.symm hu)];exact hn
     .simp only[ar]at hu⊢;split
      .rename_i e;rw[if_pos e]at hu;exact hu
      .rename_i e;rw[if_neg e]at hu;refine hext u v (λhm=>?_) hu;rw[hfr' u hm]at hu;cases hu
   rcases hp:ar T t with _|u
   .rw[hp]at h;exact h.elim
   rw[hp]at h;cases u<;>try exact h.elim
   rename_i p;obtain⟨q,hq,hk⟩:=h;by_cases e:p=b
   .subst e;refine SA body hb h1 hst hp (λd hd=>hfr' d (Mb body d hd)) (hq rfl) λE' T' a' w' hle hx' hext hst'=>fin p q hle hst' hext hp (λ_=>hx') hk
   .have:p = !b:=(by cases p<;>cases b<;>simp_all);refine Pa body hb h1 hst (.inl (by rw[hp,this])) ah4 λT' a' hext _ hst'=>fin p q (.refl E) hst' hext hp (λe'=>absurd e' e) hk
theorem SA{own:Nat->Nat}{ops:Array Oper}{Q:Exit->Act->World->Prop}{L:List Blk}(l:List SOp){g:Nat×Bool}{seen:List Nat}{is rest:List Nat}{T:Tm}{a:Act}{E:Env}{w:World}{k:Tm->Prop}(m:okB g seen l=true)(e:bt P N own ops is=some (SOp.flatL l))(f:St w0 S0 N E T L a w)(H:ar T g.1=some (.bool g.2))(c:Fr (gds l) T)(h:GL P L l k T)(D:∀E' T' q w',E.le E'->k T'->Ext (aY (SOp.flatL l)) T T'->St w0 S0 N E' T' L q w'->wpOpsIn (fB ro) 0 P ops Q rest q w'):wpOpsIn (fB ro) 0 P ops Q (is++rest) a w:=by
 cases l with
 | nil =>
   simp only[SOp.flatL]at e;have:is=[]:=by
    cases is with
    |nil=>rfl
    | cons i is =>
      simp only[bt]at e;split at e<;>cases e
   subst this;rw[GL]at h;exact D E T a w (.refl E) h (λ_ _ _ h=>h) f
 | cons s r =>
   simp only[okB,ae7,afd,afA,bne_iff_ne,afX,decide_eq_false_iff_not]at m;obtain⟨⟨I,G⟩,R⟩:=m;simp only[SOp.flatL]at e;obtain⟨U,S,rfl,h4,K⟩:=iE e;rw[afa];rw[GL]at h;rw[Mc]at c;refine adB s I h4 f H (λd hd=>c d (af9 _ hd)) h λE' T' q w' u x F M o=>?_
   refine SA r R K o (F _ _ (λp=>(G _ p).2 rfl) H) (λd hd=>M d (λp=>(G d p).1 hd) (c d (agx _ hd))) x λC B y A n j O b=>D C B y A (u.trans n) j (λt v z J=>?_) b
   simp only[SOp.flatL,aY,agn,ae2,not_or]at z;exact O t v z.2 (F t v (λp=>z.1 (TJ s t p)) J)
end
theorem acE{o:aj}{K:Tm->List Blk->Prop}{T:Tm}{L:List Blk}(h:AOp P o K T L):AOp P o (λT' L'=>K T' L'/\∃v,T'=bC o.dst v T) T L:=by
 obtain⟨d,op,gd⟩:=o;have call:∀{f:FuncId}{args:List AV},ac P f args L (Kon K d T)->ac P f args L (Kon (λT' L'=>K T' L'/\∃v,T'=bC d v T) d T):=λ{f args} h=>h.mono λav L' h=>⟨h,av,rfl⟩
 simp only[AOp]at h⊢;cases op
 case call f xs =>
  simp only at h⊢;cases he:iR T xs with
  |none=>rw[he]at h;exact h.elim
  |some args=>rw[he]at h;exact call h
 case callv f xs =>
  simp only at h⊢;cases hf:evX T f with
  |none=>rw[hf]at h;cases he:iR T xs<;>rw[he]at h<;>exact h.elim
  | some u =>
    rw[hf]at h;cases he:iR T xs with
    |none=>rw[he]at h;cases u<;>exact h.elim
    | some args =>
      rw[he]at h;cases u<;>simp only[Yy]at h
      case yld i=>exact Rm.mono h λav L' h=>⟨h,av,rfl⟩
      exact call h
 all_goals
  simp only at h⊢;generalize ak T L _=r at h⊢;cases r with
  |none=>exact h.elim
  |some r=>exact⟨h.1,h.2,r.2.1,rfl⟩
theorem Em{own:Nat->Nat}{ops:Array Oper}{Q:Exit->Act->World->Prop}{K:Tm->List Blk->Prop}:∀(l:List SOp){is:List Nat}{T:Tm}{L:List Blk}{a:Act}{E:Env}{w:World},okS l=true->bt P N own ops is=some (SOp.flatL l) ->
  St w0 S0 N E T L a w->Fr (gds l) T->SL P l K T L->(∀E' T' L' y w',E.le E'->K T' L'->St w0 S0 N E' T' L' y w'->Q .normal y w')->wpOpsIn (fB ro) 0 P ops Q is a w
 | [],is,T,L,a,E,w,hok,hl,hst,hfr,h,hK=>by
   simp only[SOp.flatL]at hl;have:is=[]:=by
    cases is with
    |nil=>rfl
    | cons i is =>
      simp only[bt]at hl;split at hl<;>cases hl
   subst this;exact hK E T L a w (.refl E) h hst
 | .op o::r,is,T,L,a,E,w,hok,hl,hst,hfr,h,hK=>by
   simp only[okS,ae7,afd,ahu,afA,afX,decide_eq_false_iff_not]at hok;simp only[SOp.flatL,SOp.flat,ahg]at hl;obtain⟨js,X,rfl,Z,Y⟩:=iE (l:=[o]) hl;obtain⟨i,rfl,h3⟩:=mB Z;have C:∀v,Fr (gds r) (bC o.dst v T):=λv=>Fr.put (ds:=gds r) hfr λk B=>hok.1 k B
   have M:(o.guard=none\/∃t b,o.guard=some (t,b)/\ar T t=some (.bool b))->AOp P o (SL P r K) T L->wpOpsIn (fB ro) 0 P ops Q ([i]++X) a w:=λm h =>
    Pi h3 hst m (acE h) λE' T' L' y w' n ⟨hs,v,e⟩ c=>by subst e;exact Em r hok.2 Y c (C v) hs λW A z R S s=>hK W A z R S (n.trans s)
   have G:∀t b,o.guard=some (t,b)->(ar T t=some (.bool (!b))\/ar T t=some (.tup []))->SL P r K (bC o.dst (.tup []) T) L->wpOpsIn (fB ro) 0 P ops Q ([i]++X) a w:=λt b m J h =>
    PW h3 hst m J λy c=>Em r hok.2 Y c (C _) h hK
   rw[SL]at h;rcases m:o.guard with _|⟨t,b⟩
   .rw[m]at h;exact M (.inl m) h
   .rw[m]at h;simp only at h;rcases J:ar T t with _|u
    .rw[J]at h;exact h.elim
    rw[J]at h;cases u<;>try exact h.elim
    .rename_i x;rw[yT]at h;by_cases e:x=b
     .rw[if_pos e]at h;exact M (.inr ⟨t,b,m,by rw[J,e]⟩) h
     .rw[if_neg e]at h;have:x = !b:=(by cases x<;>cases b<;>simp_all);exact G t b m (.inl (by rw[J,this])) h
    .rename_i l;cases l with
     |cons _ _=>exact h.elim
     |nil=>exact G t b m (.inr J) h
 | .grp g t b body d x::r,is,T,L,a,E,w,hok,hl,hst,hfr,h,hK=>by
   simp only[okS,ae7,decide_eq_true_eq,afA,afX,decide_eq_false_iff_not]at hok;obtain⟨⟨⟨⟨m,al⟩,hb⟩,hd⟩,hr⟩:=hok;simp only[SOp.flatL,SOp.flat,afa]at hl;obtain⟨js,an,rfl,Z,Y⟩:=iE hl;obtain⟨ap,X,rfl,ad,h4⟩:=iE Y;obtain⟨i,rfl,h3⟩:=mB ad;rw[SL]at h;have D:Fr (aY (SOp.flatL body)) T:=λd' H=>hfr d' (by simp[gds,H])
   have O:Fr (gds r) T:=λd' H=>hfr d' (by simp[gds,H])
   have V:∀{E':Env}{T':Tm}{y:Act}{w':World}(p q:Bool),E.le E'->St w0 S0 N E' T' L y w'->Ext (aY (SOp.flatL body)) T T'->ar T t=some (.bool p)->(p=b->evX T' x=some (.bool q))->SL P r K ((d,.bool (mrg b p q))::T) L->wpOpsIn (fB ro) 0 P ops Q ([i]++X) y w':=λ{E' T' y w'} p q n c f F hq B=>by
    have hv:ak T' L (.pick (.tmp t) (if b then x else .av (.bool true)) (if b then .av (.bool false)else x))=some (True,.bool (mrg b p q),L):=by have ai:ar T' t=some (.bool p):=f _ _ al F;cases b<;>cases p<;>simp[ak,evX,ai,mrg]<;>exact hq rfl
    refine Pi h3 c (.inl (by simp[df,m])) (K:=λA z=>A=(d,.bool (mrg b p q))::T'/\z=L) ?_ λW A z R S s ⟨e1,e2⟩ j=>?_
    .simp only[df,AOp,hv,Res,bC,and_self]
    .subst e1;subst e2;refine Em r hr h4 (T:=(d,.bool (mrg b p q))::T) ⟨j.1,j.2.1.weak λu v I=>?_,j.2.2⟩ (Fr.put (d:=some d) O λk B=>by cases B;exact hd) B λE3 T3 L3 a3 w3 U=>hK E3 T3 L3 a3 w3 ((n.trans s).trans U)
     simp only[ar]at I⊢;split
     .rename_i e;rw[if_pos e]at I;exact I
     .rename_i e;rw[if_neg e]at I;refine f u v (λhm=>?_) I;rw[D u hm]at I;cases I
   rcases F:ar T t with _|u
   .rw[F]at h;exact h.elim
   rw[F]at h;cases u<;>try exact h.elim
   rename_i p;obtain⟨q,hq,B⟩:=h;by_cases e:p=b
   .subst e;exact SA body hb Z hst F (λd hd=>D d (Mb body d hd)) (hq rfl) λE' T' y w' n ab f c=>V p q n c f F (λ_=>ab) B
   .have:p = !b:=(by cases p<;>cases b<;>simp_all);exact Pa body hb Z hst (.inl (by rw[F,this])) ah4 λT' y f _ c=>V p q (.refl E) c f F (λe'=>absurd e' e) B
end
theorem acb{p b:Bool}(h:¬p=b):p = !b:=by cases p<;>cases b<;>simp_all
mutual
def So(g:Option (Nat×Bool))(seen D:List Nat):SOp->Bool
 |.op o=>decide (o.guard=g)&&o.reads.all (λt => !D.contains t)
 |.grp g' t b body d x=>decide (g'=g)&&(g.isNone ||seen.contains t) && !D.contains t && !(aY (SOp.flatL body)).contains t&&(match g with|some g1 => !(aY (SOp.flatL body)).contains g1.1|none=>true) &&
  x.tmps.all (λt => !(D++gds body).contains t)&&okG (some (t,b)) [] D body
def okG(g:Option (Nat×Bool))(seen D:List Nat):List SOp->Bool
 |[]=>true
 |s::r=>So g seen D s&&(bK s).all (λd => !(D++gds [s]).contains d && !(gds r).contains d&&(match g with|some g1=>d != g1.1|none=>true))&&okG g (bK s++seen) (D++gds [s]) r
end
section
variable {P:Program}{L:List Blk}{K:Tm->List Blk->Prop}
def AR(P:Program)(K:Tm->List Blk->Prop)(l:List aj)(L:List Blk)(T:Tm):Prop:=AG P K (l.map λo=>(o,.read 0 0)) [L] [] T
theorem ad4{T:Tm}(h:K T L):AR P K [] L T:=h
theorem Pq{o:aj}{r:List aj}{T:Tm}{v:AV}(b:AQ P o T L v)(c:AR P K r L (bC o.dst v T)):AR P K (o::r) L T:=by refine⟨v,λL' a=>?_,c⟩;simp at a;subst a;exact b
def Agr(D:List Nat)(T T1:Tm):Prop:=∀t,t∉D->ar T1 t=ar T t
theorem Agr.put{D:List Nat}{T T1:Tm}(h:Agr D T T1)(d:Option Nat)(v:AV):Agr D (bC d v T) (bC d v T1):=λt a=>by
 cases d with
 |none=>exact h t a
 |some d=>simp only[bC,ar];split;rfl;exact h t a
theorem TZ{d:Option Nat}{T:Tm}{t:Nat}(h:ar T t=some (.tup [])):ar (bC d (.tup []) T) t=some (.tup []):=by
 cases d with
 |none=>exact h
 |some d=>simp only[bC,ar];split;rfl;exact h
mutual
theorem aco(s:SOp){g:Nat×Bool}{seen D:List Nat}{rest:List aj}{T:Tm}(a:So (some g) seen D s=true)(f:ar T g.1=some (.bool (!g.2))\/ar T g.1=some (.tup []))(i:∀d∈seen,ar T d=some (.tup []))(m:∀T',(∀t,t∉aY s.flat->ar T' t=ar T t)->(∀d,ar T d=some (.tup [])->ar T' d=some (.tup []))->(∀d∈bK s,ar T' d=some (.tup []))->AR P K rest L T'):AR P K (s.flat++rest) L T:=by
 have c:∀(o:aj) (T:Tm),o.guard=some g->(ar T g.1=some (.bool (!g.2))\/ar T g.1=some (.tup []))->AQ P o T L (.tup []):=λo T w f=>by obtain⟨t,b⟩:=g;simp only[AQ,w];rcases f with f|f<;>simp only at f<;>rw[f]<;>simp
 cases s with
 | op o =>
   simp only[So,ae7,decide_eq_true_eq]at a;refine Pq (c o T a.1 f) (m _ (λt j=>nT λe=>j (by simp[SOp.flat,aY,e])) (λd hd=>TZ hd) λd hd=>?_);simp only[bK,ahu]at hd;rw[hd];simp[bC,ar]
 | grp g' t b body d x =>
   simp only[So,ae7,decide_eq_true_eq,Option.isNone_some,ag0,afA,afX,decide_eq_false_iff_not]at a;obtain⟨⟨⟨⟨⟨⟨k,j⟩,_⟩,y⟩,l⟩,_⟩,p⟩:=a;simp only[SOp.flat,afa];refine QS body p (.inr (i t (by simpa using j))) ah4 λT' n q=>?_
   refine Pq (o:=df g' t b d x) (v:=.tup []) (c _ T' (by simp[df,k]) (by rw[n _ l];exact f)) (m _ (λu h=>?_) (λu h=>TZ (q u h)) λu h=>?_)
   .rw[nT (λe=>h (by simp only[df]at e;simp[SOp.flat,aY,df,e]))];exact n u λr=>h (by simp only[SOp.flat,aY,agn,ae2];exact .inl r)
   .simp only[bK,afl]at h;subst h;simp[df,bC,ar]
theorem QS(l:List SOp){g:Nat×Bool}{seen D:List Nat}{rest:List aj}{T:Tm}(e:okG (some g) seen D l=true)(u:ar T g.1=some (.bool (!g.2))\/ar T g.1=some (.tup []))(c:∀d∈seen,ar T d=some (.tup []))(n:∀T',(∀t,t∉aY (SOp.flatL l)->ar T' t=ar T t)->(∀d,ar T d=some (.tup [])->ar T' d=some (.tup []))->AR P K rest L T'):AR P K (SOp.flatL l++rest) L T:=by
 cases l with
 |nil=>exact n T (λ_ _=>rfl) (λ_ h=>h)
 | cons s r =>
   simp only[okG,ae7,afd,afA,bne_iff_ne]at e;obtain⟨⟨j,q⟩,z⟩:=e;simp only[SOp.flatL,afa];refine aco s j u c λT' p i w=>?_
   have k:ar T' g.1=some (.bool (!g.2))\/ar T' g.1=some (.tup []):=by
    by_cases a:g.1∈aY s.flat
    .cases s with
     | op o =>
       simp only[aY,SOp.flat,List.filterMap_cons,List.filterMap_nil]at a;cases hd:o.dst with
       |none=>simp[hd]at a
       | some d =>
         simp[hd]at a;exact absurd a.symm (q d (by simp[bK,hd])).2
     | grp g' t b body d x =>
       simp only[So,ae7,afA,afX,decide_eq_false_iff_not]at j;simp only[aY,SOp.flat,agn,ae2]at a;rcases a with a|a
       .exact absurd a j.1.1.2
       .simp[df]at a;exact absurd a.symm (q d (by simp[bK])).2
    .exact u.imp (λh=>by rw[p _ a];exact h) (i _)
   refine QS r z k (λd hd=>?_) λm y v=>n m (λt f=>?_) (λd hd=>v d (i d hd))
   .rcases ae2.1 hd with hd|hd
    .exact w d hd
    .exact i d (c d hd)
   .simp only[SOp.flatL,aY,agn,ae2,not_or]at f;rw[y t f.2,p t f.1]
end
def LS(l:List SOp):List Nat:=l.flatMap bK
theorem RH:∀(l:List SOp),∀d∈LS l,d∈aY (SOp.flatL l)
 |[],d,h=>by simp[LS]at h
 |s::r,d,h=>by simp only[LS,afT,ae2]at h;simp only[SOp.flatL,aY,agn,ae2];exact h.imp (TJ s d) (RH r d)
theorem adX{o:aj}{k:Tm->Prop}{T:Tm}(h:GOp P L o k T):∃v,AQv P o T L v/\k (bC o.dst v T):=by
 obtain⟨d,op,gd⟩:=o;simp only[GOp]at h;unfold AQv;cases op
 case call f xs =>
  simp only at h⊢;cases he:iR T xs with
  |none=>rw[he]at h;exact h.elim
  |some args=>rw[he]at h;obtain⟨v,h1,h2⟩:=h;exact⟨v,h1,h2⟩
 case callv f xs =>
  simp only at h⊢;cases hf:evX T f with
  |none=>rw[hf]at h;exact h.elim
  | some u =>
    rw[hf]at h;cases he:iR T xs with
    |none=>rw[he]at h;cases u<;>exact h.elim
    | some args =>
      rw[he]at h;cases u<;>simp only[W5]at h;obtain⟨v,h1,h2⟩:=h;exact⟨v,h1,h2⟩
 all_goals
  simp only at h⊢;generalize ak T L _=r at h⊢;cases r with
  |none=>exact h.elim
  | some r =>
    obtain⟨c,av,L'⟩:=r;exact⟨av,⟨h.1,rfl,h.2.1⟩,h.2.2⟩
mutual
theorem adL(s:SOp){g:Option (Nat×Bool)}{seen D:List Nat}{rest:List aj}{T T1:Tm}{k:Tm->Prop}(f:So g seen D s=true)(Y:∀g1,g=some g1->g1.1∉D/\ar T g1.1=some (.bool g1.2))(I:∀d∈gds [s],ar T d=none)(y:Agr D T T1)(h:GO P L s k T)(Q:∀T' z,k T'->Agr (D++gds [s]) T' z->(∀t,t∉bK s->ar T' t=ar T t)->AR P K rest L z):AR P K (s.flat++rest) L T1:=by
 cases s with
 | op o =>
   simp only[So,ae7,decide_eq_true_eq,afd,afA,afX,decide_eq_false_iff_not]at f;simp only[GO]at h;obtain⟨v,j,r⟩:=adX h;have m:AQ P o T L v:=by
    unfold AQ;rw[f.1];cases g with
    |none=>exact j
    | some g1 =>
      obtain⟨t,b⟩:=g1;have:=(Y _ rfl).2;simp only at this⊢;rw[this];simp[j]
   refine Pq (m.congr λt E=>(y t (f.2 t E)).symm) (Q _ _ r (λt E=>?_) λt E=>nT λe=>E (by simp[bK,e]));exact(y.put _ _) t λF=>E (af9 _ F)
 | grp g' t b body d x =>
   simp only[So,ae7,decide_eq_true_eq,afd,afA,afX,decide_eq_false_iff_not]at f;obtain⟨⟨⟨⟨⟨⟨G,_⟩,n⟩,O⟩,V⟩,J⟩,W⟩:=f;simp only[GO]at h;have B:∀u∈aY (SOp.flatL body),ar T u=none:=λu i=>I u (by simp[gds,i])
   have S:gds [SOp.grp g' t b body d x]=aY (SOp.flatL body):=(by simp[gds]);rw[S]at Q;simp only[SOp.flat,afa];have w:∀{c:Tm}(p q:Bool),ar T t=some (.bool p)->(∀u,u∉D->u∉aY (SOp.flatL body)->ar c u=ar T u)->(p=b->evX c x=some (.bool q))->k ((d,.bool (mrg b p q))::T)->AR P K ([df g' t b d x]++rest) L c:=λ{c} p q l U m H=>by
    have hv:ak c L (.pick (.tmp t) (if b then x else .av (.bool true)) (if b then .av (.bool false)else x))=some (True,.bool (mrg b p q),L):=by have M:ar c t=some (.bool p):=(by rw[U t n O];exact l);cases b<;>cases p<;>simp[ak,evX,M,mrg]<;>exact m rfl
    have A:AQv P (df g' t b d x) c L (.bool (mrg b p q)):=by simp only[AQv,df,hv,and_self]
    have m:AQ P (df g' t b d x) c L (.bool (mrg b p q)):=by
     unfold AQ;cases g with
     |none=>simp only[df,G];exact A
     | some g1 =>
       obtain⟨X,Z⟩:=g1;have j:=Y _ rfl;simp only[df,G];rw[show ar c X=some (.bool Z)by rw[U X j.1 (by simpa using V)];exact j.2];simp;exact A
    refine Pq m (Q ((d,.bool (mrg b p q))::T) _ H (λu i=>?_) λu i=>?_)
    .simp only[ae2,not_or]at i;simp only[df,bC,ar];split
     .rfl
     .exact U u i.1 i.2
    .simp only[bK,afl]at i;simp only[ar];rw[if_neg (Ne.symm i)]
   rcases l:ar T t with _|u
   .rw[l]at h;exact h.elim
   rw[l]at h;cases u<;>try exact h.elim
   rename_i p;obtain⟨q,m,H⟩:=h;by_cases e:p=b
   .subst e;refine SX body W (λg1 e=>by cases e;exact⟨n,l⟩) (λu i=>B u (Mb body u i)) y (m rfl) λTb c R C N=>w p q l (λu j r=>?_) (λ_=>?_) H
    .rw[C u (by simp only[ae2,not_or];exact⟨j,λF=>r (Mb body u F)⟩)];exact N u λF=>r (RH body u F)
    .have hxb':evX Tb x=some (.bool q):=R;rw[<- hxb'];cases x with
     |av a=>rfl
     |tmp t'=>exact C t' (by have:=J t' (by simp[Opd.tmps]);simpa using this)
   .have:p = !b:=acb e;refine QS body W (.inl (by show ar T1 t=_;rw[y t n,l,this])) ah4 λc j _=>w p q l (λu r h3=>?_) (λe'=>absurd e' e) H
    rw[j u h3,y u r]
theorem SX(l:List SOp){g:Option (Nat×Bool)}{seen D:List Nat}{rest:List aj}{T T1:Tm}{k:Tm->Prop}(i:okG g seen D l=true)(A:∀g1,g=some g1->g1.1∉D/\ar T g1.1=some (.bool g1.2))(a:∀d∈gds l,ar T d=none)(z:Agr D T T1)(h:GL P L l k T)(p:∀T' c,k T'->Agr (D++gds l) T' c->(∀t,t∉LS l->ar T' t=ar T t)->AR P K rest L c):AR P K (SOp.flatL l++rest) L T1:=by
 cases l with
 | nil =>
   rw[GL]at h;exact p T T1 h (by simpa[gds]using z) (λ_ _=>rfl)
 | cons s r =>
   simp only[okG,ae7,afd,afA,afX,decide_eq_false_iff_not]at i;obtain⟨⟨m,f⟩,I⟩:=i;have H:∀d∈bK s,d∉gds r:=λd hd=>(f d hd).1.2
   simp only[SOp.flatL,afa];rw[GL]at h;rw[Mc]at a p;refine adL s m A (λd hd=>a d (af9 _ hd)) z h λT' c B G w=>?_
   refine SX r I (λg1 C=>?_) (λd hd=>?_) G B λv j n F E=>p v j n (by rwa[afa]at F) λt u=>?_
   .subst C;have y:g1.1∉bK s:=λe=>by have:=(f _ e).2;simp at this
    have q:g1.1∉gds [s]:=λe=>by
     cases s with
     |op o=>simp[gds]at e
     | grp g' t b body d x =>
       simp only[So,ae7,afA,afX,decide_eq_false_iff_not]at m;simp only[gds,afq]at e;exact m.1.1.2 e
    have h4:=A g1 rfl;exact⟨by simp only[ae2,not_or];exact⟨h4.1,q⟩,by rw[w _ y];exact h4.2⟩
   .rw[w d (λe=>H d e hd)];exact a d (agx _ hd)
   .simp only[LS,afT,ae2,not_or]at u;rw[E t u.2,w t u.1]
end
theorem TM:∀(l:List SOp){g:Option (Nat×Bool)}{seen D:List Nat},okG g seen D l=true->∀t∈LS l,t∉D++gds l
 |[],_,_,_,_,t,h=>by simp[LS]at h
 | s::r,g,seen,D,hok,t,h=>by
   simp only[okG,ae7,afd,afA,afX,decide_eq_false_iff_not]at hok;obtain⟨⟨c,a⟩,b⟩:=hok;rw[Mc];simp only[LS,afT,ae2]at h;rcases h with h|h
   .have:=(a t h).1;simp only[ae2,not_or]at this⊢;exact⟨this.1.1,this.1.2,this.2⟩
   .have:=TM r b t h;simp only[ae2,not_or]at this⊢;exact⟨this.1.1,this.1.2,this.2⟩
theorem Yp{l:List SOp}{T:Tm}{k:Tm->Prop}(a:okG none [] [] l=true)(b:Fr (gds l) T)(h:GL P L l k T):AR P (λT1 L'=>L'=L/\∃T',k T'/\∀t v,ar T' t=some v->ar T1 t=some v) (SOp.flatL l) L T:=by
 have:=SX (K:=λT1 L'=>L'=L/\∃T',k T'/\∀t v,ar T' t=some v->ar T1 t=some v) (rest:=[]) l a (λ_ e=>by cases e) b (T1:=T) (λ_ _=>rfl) h λT' j g i m=>ad4 ⟨rfl,T',g,λt v d=>?_⟩
 simpa using this;by_cases c:t∈gds l;by_cases f:t∈LS l;exact absurd (by simpa using c) (TM l a t f);rw[m t f,b t c]at d;cases d;rw[i t (by simpa using c)];exact d
end
section
variable {P:Program}{r:Option Nat}{w0:World}{S0:SB}{N:Nat}
inductive aT where
 |skip
 |sreg (sops:List SOp) (mask:List Bool)
 |sdreg (sops:List SOp) (kds:List Kd) (mask:List Bool)
 |dregM (qk:List (aj×Kd)) (ts:List aj) (mask:List Bool)
 |region (ops:List aj)
 |dregion (qk:List (aj×Kd)) (ts:List aj)
 |seq (a b:aT)
 |cond (c:Opd) (a b:aT)
 |block (id:Nat) (c:aT)
 |loop (c:aT)
 |exit (id:Nat)
 |ret
 |rangeF (g:Opd) (ps:List Nat) (x y:aT)
 |scope (c:aT)
 |label
 deriving Inhabited
def aT.raw:aT->aT
 |.sreg s _=>.region (SOp.flatL s)
 |.dregM qk ts _=>.dregion qk ts
 |.sdreg s kds _=>.dregion ((SOp.flatL s).zip kds) ((SOp.flatL s).drop kds.length)
 |.seq a b=>.seq a.raw b.raw
 |.cond c a b=>.cond c a.raw b.raw
 |.block id c=>.block id c.raw
 |.loop c=>.loop c.raw
 |.rangeF g ps x y=>.rangeF g ps x.raw y.raw
 |.scope c=>.scope c.raw
 |c=>c
def aT.hasRF:aT->Bool
 |.seq a b=>a.hasRF ||b.hasRF
 |.cond _ a b=>a.hasRF ||b.hasRF
 |.block _ c=>c.hasRF
 |.loop c=>c.hasRF
 |.scope c=>c.hasRF
 |.rangeF ..=>true
 |_=>false
theorem aT.hasRF_raw:∀c:aT,c.raw.hasRF=c.hasRF
 |.seq a b=>by simp[aT.raw,aT.hasRF,hasRF_raw a,hasRF_raw b]
 |.cond c a b=>by simp[aT.raw,aT.hasRF,hasRF_raw a,hasRF_raw b]
 |.block _ c=>by simp[aT.raw,aT.hasRF,hasRF_raw c]
 |.loop c=>by simp[aT.raw,aT.hasRF,hasRF_raw c]
 |.scope c=>by simp[aT.raw,aT.hasRF,hasRF_raw c]
 |.rangeF ..=>rfl
 |.skip|.label|.sreg .. |.sdreg .. |.dregM .. |.region .. |.dregion .. |.exit .. |.ret=>rfl
def LOp.effB:LOp->Bool
 |.alloc _|.box _|.s2bO _|.s2bG _|.rangeS _|.nextS _|.store .. |.mkslice .. |.app .. |.appz .. |.copy .. |.clear .. |.mkmap|.mset .. |.mdel .. |.mclr _|.mrange _|.mnext _=>true
 |.bslice own ..=>own
 |_=>false
def aek(own:Nat->Nat)(i:Nat)(o:aj):Bool:=o.op.effB ||own i == 3
def adu(eff:Nat->aj->Bool)(tbl:List Nat)(es:List Nat)(i:Nat)(o:aj):Kd :=
 if o.op.pureB=true then .pure else if eff i o=true then .eff
 else .read (es.filter λe=>decide (e<i) && !(tbl.getD i 0).testBit e).length (es.filter λe=>decide (i<e) && !(tbl.getD e 0).testBit i).length
def Su(eff:Nat->aj->Bool)(tbl:List Nat)(qs:List aj):List (aj×Kd):=
 let es:=(qs.zipIdx.filter λp=>eff p.2 p.1).map (·.2)
 qs.zipIdx.map λp=>(p.1,adu eff tbl es p.2 p.1)
theorem T6(a:Nat->aj->Bool)(tbl:List Nat)(qs:List aj):(Su a tbl qs).map (·.1)=qs:=by simp[Su,afj,Function.comp_def]
def aF(P:Program)(N:Nat)(own:Nat->Nat->Nat):Code->Option aT
 |.skip=>some .skip
 |.region id ops false=>(bt P N (own id) ops (List.range ops.size)).map .region
 | .region id ops true=>(bt P N (own id) ops (List.range ops.size)).bind fun los =>
   let n:=R2 (om ops.toList []) 0 los.length
   let qk:=Su (aek (own id)) (om ops.toList []) (los.take n)
   if(GB ops los n&&decide (n<=los.length)&&P.follows .mixedOrders&&MO (om ops.toList []) qk)=true then some (.dregion qk (los.drop n))else none
 | .seq a b=>match aF P N own a,aF P N own b with
   |some x,some y=>some (.seq x y)
   |_,_=>none
 | .cond c a b=>match aZ c,aF P N own a,aF P N own b with
   |some c,some x,some y=>some (.cond c x y)
   |_,_,_=>none
 |.block id c=>(aF P N own c).map (.block id)
 |.loop c=>(aF P N own c).map .loop
 |.exit id=>some (.exit id)
 |.ret=>some .ret
 |.scope c=>(aF P N own c).map .scope
 |.label _=>some .label
 | .rangeFunc g ps x y=>match aZ g,aF P N own x,aF P N own y with
   |some g,some x,some y=>if(!x.hasRF && !y.hasRF&&ps.all λp=>decide (p<N))=true then some (.rangeF g ps.toList x y)else none
   |_,_,_=>none
 |_=>none
structure Bs(w0:World)(S0:SB)(w1:World)(S1:SB):Prop where
 size:w0.heap.size<=w1.heap.size
 fr:∀k,k<w0.heap.size->¬S0 k->¬S1 k/\w1.heap[k]?=w0.heap[k]?
 sub:∀k,S1 k->S0 k\/w0.heap.size<=k
 os:w1.os=w0.os
 tape:w1.tape=w0.tape
 output:w1.output=w0.output
 low:S1.B=S0.B
theorem Bs.refl(w0:World)(S0:SB):Bs w0 S0 w0 S0:=⟨ae0 _,λ_ _ h=>⟨h,rfl⟩,λ_ h=>.inl h,rfl,rfl,rfl,rfl⟩
theorem Bs.trans{w0 e f:World}{S0 d c:SB}(h:Bs w0 S0 e d)(k:Bs e d f c):Bs w0 S0 f c :=
 ⟨afw h.size k.size,λi b j=>by
  obtain⟨a,g⟩:=h.fr i b j;obtain⟨l,h4⟩:=k.fr i (af8 b h.size) a;exact⟨l,h4.trans g⟩,λi b=>by
  rcases k.sub i b with a|a;exact h.sub i a;exact .inr (afw h.size a),k.os.trans h.os,k.tape.trans h.tape,k.output.trans h.output,k.low.trans h.low⟩
theorem Bs.rel{w0 j w:World}{S0 g:SB}(h:Bs w0 S0 j g){E:Env}{L:List Blk}(a:Rel j g E L w):Rel w0 S0 E L w :=
 ⟨a.mem,a.blk,a.fresh,λi k c d b e=>⟨(a.own i k c d b e).1,by
  rcases(a.own i k c d b e).2 with h4|h4;exact h.sub _ h4;exact .inr (afw h.size h4)⟩,a.inj,a.tkfresh,λi n sz t k d b e=>⟨(a.tkown i n sz t k d b e).1,by
  rcases(a.tkown i n sz t k d b e).2 with h4|h4;exact h.sub _ h4;exact .inr (afw h.size h4)⟩,a.tkloc,a.tkinj,λk f l=>by
  obtain⟨d,b⟩:=h.fr k f l;exact(a.frame k (af8 f h.size) d).trans b,afw h.size a.size,a.os.trans h.os,a.tape.trans h.tape,a.output.trans h.output,a.glob,a.gsz⟩
theorem Rel.ownSub{w0 w:World}{S0:SB}{E:Env}{L:List Blk}(f:Rel w0 S0 E L w)(k:Nat)(g:Mt E L k):S0 k\/w0.heap.size<=k:=by rcases g with⟨i,b,c,d,a,e,rfl⟩|⟨i,n,sz,t,c,d,a,e,rfl⟩;exact(f.own i b c d a e).2;exact(f.tkown i n sz t c d a e).2
theorem Rel.bs{w0 w:World}{S0:SB}{E:Env}{L:List Blk}(a:Rel w0 S0 E L w):Bs w0 S0 w ⟨Mt E L,S0.B⟩:=
 ⟨a.size,λk d b=>⟨λe=>by rcases a.ownSub k e with c|c;exact b c;omega,a.frame k d b⟩,a.ownSub,a.os,a.tape,a.output,rfl⟩
theorem UO.bs{w0 e:World}{S0 a:SB}{ds:List Deferred}(h:UO w0 S0 ds)(b:Bs w0 S0 e a):UO e a ds:=⟨by rw[b.low];exact afw h.1 b.size,h.2.1,λd hd=>by obtain⟨D,k,i,c,g,h4⟩:=h.2.2 d hd;obtain⟨f,j⟩:=b.fr D c g;exact⟨D,k,by rw[b.low];exact i,af8 c b.size,f,j.trans h4⟩⟩
def AW(P:Program)(N:Nat)(own:Nat->Nat->Nat)(lc:aT)(Q:Exit->Tm->List Blk->Prop)(T:Tm)(L:List Blk):Prop :=
 ∀c,aF P N own c=some lc.raw->∀(r:Option Nat),(lc.hasRF=true->r=none)->∀(w0:World) (S0:SB) (E:Env) (a:Act) (w:World),St w0 S0 N E T L a w ->
  c.wpIn (fB r) 0 P (λe a' w'=>∃w1 S1 E' T' L',Bs w0 S0 w1 S1/\E.le E'/\Q e T' L'/\St w1 S1 N E' T' L' a' w') a w
variable {own:Nat->Nat->Nat}{Q:Exit->Tm->List Blk->Prop}{T:Tm}{L:List Blk}
theorem AW.mono{lc:aT}{f:Exit->Tm->List Blk->Prop}(h:AW P N own lc Q T L)(g:∀e T L,Q e T L->f e T L):AW P N own lc f T L:=λc k r hr w0 S0 E a w d =>
 wpIn_mono (h c k r hr w0 S0 E a w d) λe o w' ⟨m,l,E',T',L',b,j,i,n⟩=>⟨m,l,E',T',L',b,j,g _ _ _ i,n⟩
theorem AW.weakT{lc:aT}{T':Tm}(h:AW P N own lc Q T' L)(d:∀t v,ar T' t=some v->ar T t=some v):AW P N own lc Q T L:=λc f r hr w0 S0 E a w b =>
 h c f r hr w0 S0 E a w (b.weak d rfl λ_ _ e=>.inr e)
theorem sN{c:Code}{x:aT}(d:aF P N own c=some x):match x with
  |.skip=>c=.skip
  |.exit id=>c=.exit id
  |.ret=>c=.ret
  |.label=>∃l,c=.label l
  |.seq x y=>∃g i,c=.seq g i/\aF P N own g=some x/\aF P N own i=some y
  |.cond o x y=>∃m g i,c=.cond m g i/\aZ m=some o/\aF P N own g=some x/\aF P N own i=some y
  |.block id x=>∃g,c=.block id g/\aF P N own g=some x
  |.loop x=>∃g,c=.loop g/\aF P N own g=some x
  |.scope x=>∃g,c=.scope g/\aF P N own g=some x
  |.region ops=>∃id os,c=.region id os false/\bt P N (own id) os (List.range os.size)=some ops
  |.dregion qk ts=>∃id os e n,c=.region id os true/\bt P N (own id) os (List.range os.size)=some e/\GB os e n=true/\n<=e.length/\P.follows .mixedOrders=true/\qk.map (·.1)=e.take n/\ts=e.drop n/\MO (om os.toList []) qk=true
  |_=>True:=by
 cases c with
 |skip=>cases d;rfl
 |ret=>cases d;rfl
 |exit id=>cases d;rfl
 |label l=>cases d;exact⟨_,rfl⟩
 |goto l=>cases d
 |refuse s=>cases d
 |block id c=>simp only[aF,afr]at d;obtain⟨_,h,rfl⟩:=d;exact⟨_,rfl,h⟩
 |loop c=>simp only[aF,afr]at d;obtain⟨_,h,rfl⟩:=d;exact⟨_,rfl,h⟩
 |scope c=>simp only[aF,afr]at d;obtain⟨_,h,rfl⟩:=d;exact⟨_,rfl,h⟩
 | seq a b => simp only [aF] at d; split at d <;> try (cases d; done)
              rename_i h j;cases d;exact⟨_,_,rfl,h,j⟩
 | cond k a b => simp only [aF] at d; split at d <;> try (cases d; done)
                 rename_i h j p;cases d;exact⟨_,_,_,rfl,h,j,p⟩
 | rangeFunc f ps a b =>
   simp only[aF]at d
   repeat' split at d
   all_goals cases d
   trivial
 | region id ops draw =>
   cases draw
   .simp only[aF,afr]at d;obtain⟨_,h,rfl⟩:=d;exact⟨_,_,rfl,h⟩
   .simp only[aF,agM]at d;obtain⟨e,h,d⟩:=d;split at d
    .rename_i hb;simp only[ae7,decide_eq_true_eq]at hb;cases d;exact⟨_,_,e,_,rfl,h,hb.1.1.1,hb.1.1.2,hb.1.2,T6 _ _ _,rfl,hb.2⟩
    .cases d
theorem ZI{c:Code}(a:aF P N own c=some .skip):c=.skip:=sN a
theorem ZK{c:Code}{id:Nat}(a:aF P N own c=some (.exit id)):c=.exit id:=sN a
theorem abT{c:Code}(a:aF P N own c=some .ret):c=.ret:=sN a
theorem WN{c:Code}{x y:aT}(d:aF P N own c=some (.seq x y)):∃a b,c=.seq a b/\aF P N own a=some x/\aF P N own b=some y:=sN d
theorem T9{c:Code}{o:Opd}{x y:aT}(e:aF P N own c=some (.cond o x y)):∃b a d,c=.cond b a d/\aZ b=some o/\aF P N own a=some x/\aF P N own d=some y:=sN e
theorem XS{c:Code}{id:Nat}{x:aT}(b:aF P N own c=some (.block id x)):∃a,c=.block id a/\aF P N own a=some x:=sN b
theorem ZJ{c:Code}{x:aT}(b:aF P N own c=some (.loop x)):∃a,c=.loop a/\aF P N own a=some x:=sN b
theorem JE{c:Code}{ops:List aj}(a:aF P N own c=some (.region ops)):∃id os,c=.region id os false/\bt P N (own id) os (List.range os.size)=some ops:=sN a
theorem OD{c:Code}{qk:List (aj×Kd)}{ts:List aj}(b:aF P N own c=some (.dregion qk ts)):∃id os a n,c=.region id os true/\bt P N (own id) os (List.range os.size)=some a/\GB os a n=true/\n<=a.length/\P.follows .mixedOrders=true/\qk.map (·.1)=a.take n/\ts=a.drop n/\MO (om os.toList []) qk=true:=sN b
theorem jZ{b:Frame}{a:Act}{k:List Item}{cs:List Frame}{w:World}{c:Code}:step P (lone (b.atR a (.code (.scope c)::k)) cs w)=.next (lone (b.atR a (.code c :: .inScope c::k)) cs w):=
 step_lone_go (by simp[stepG,stepG.exec,Frame.atR])
theorem Q4{b:Frame}{a:Act}{k:List Item}{cs:List Frame}{w:World}{c:Code}:step P (lone (b.atR a (.inScope c::k)) cs w)=.next (lone (b.atR a k) cs w):=
 step_lone_go (by simp[stepG,stepG.exec,Frame.atR])
theorem UX{F:Fence}{n:Nat}{a:Act}{w:World}{Q:Exit->Act->World->Prop}{c:Code}(h:c.wpIn F n P (Exit.noGoto Q) a w):(Code.scope c).wpIn F n P Q a w:=by
 intro b k cs q m hr;have g:(lone (b.atR a (.code (.scope c)::k)) cs w).fenced P F:=fenced_calm m hr rfl;obtain⟨e,j,i,f,d⟩:=h b (.inScope c::k) cs q m hr;cases e with
 |normal=>exact⟨.normal,j,i,f,.head g jZ (StepsIn.trans d (.one (fenced_calm m hr rfl) Q4))⟩
 | exit id =>
   have r:exitTo id (.inScope c::k)=exitTo id k:=(by simp[exitTo]);exact⟨.exit id,j,i,f,λk' o=>.head g jZ (d.1 k' (by rw[r];exact o)),
    λp o=>let ⟨k₁,h1,h2⟩:=d.2 p (by rw[r];exact o);⟨k₁,h1,.head g jZ h2⟩⟩
 |goto l=>exact f.elim
 |ret=>exact⟨_,j,i,f,.of_steps (.one g jZ) d⟩
 |panic ch=>exact⟨_,j,i,f,.of_steps (.one g jZ) d⟩
 |outgrown=>exact⟨_,j,i,f,.of_steps (.one g jZ) d⟩
theorem iX(h:Q .normal T L):AW P N own .skip Q T L:=λc d r hr w0 S0 E a w b=>by obtain rfl:=ZI d;exact wpIn_skip ⟨w0,S0,E,T,L,.refl _ _,.refl E,h,b⟩
theorem jP{id:Nat}(h:Q (.exit id) T L):AW P N own (.exit id) Q T L:=λc d r hr w0 S0 E a w b=>by obtain rfl:=ZK d;exact wpIn_exit ⟨w0,S0,E,T,L,.refl _ _,.refl E,h,b⟩
theorem oF(h:Q .ret T L):AW P N own .ret Q T L:=λc d r hr w0 S0 E a w b=>by obtain rfl:=abT d;exact wpIn_ret ⟨w0,S0,E,T,L,.refl _ _,.refl E,h,b⟩
def UM(K:Tm->List Blk->Prop)(Q:Exit->Tm->List Blk->Prop):Exit->Tm->List Blk->Prop
 |.normal,T,L=>K T L
 |e,T,L=>Q e T L
theorem lF{x y:aT}(h:AW P N own x (UM (AW P N own y Q) Q) T L):AW P N own (.seq x y) Q T L:=λc hc r hr w0 S0 E a w hst=>by
 obtain⟨c1,c2,rfl,h1,h2⟩:=WN hc;refine wpIn_seq (wpIn_mono (h c1 h1 r (λe=>hr (by simp[aT.hasRF,e])) w0 S0 E a w hst) λe a' w' ⟨w1,S1,E',T',L',b,g1,g2,g3⟩=>?_);cases e
 case normal=>exact wpIn_mono (g2 c2 h2 r (λe=>hr (by simp[aT.hasRF,e])) w1 S1 E' a' w' g3) λe a'' w'' ⟨w2,S2,E'',T'',L'',b2,k1,k2,k3⟩=>⟨w2,S2,E'',T'',L'',b.trans b2,g1.trans k1,k2,k3⟩
 all_goals exact⟨w1,S1,E',T',L',b,g1,g2,g3⟩
theorem eZ{x:Opd}{y z:aT}{b:Bool}(l:evX T x=some (.bool b))(h:b=true->AW P N own y Q T L)(m:b=false->AW P N own z Q T L):AW P N own (.cond x y z) Q T L:=λc k r hr w0 S0 E a w d=>by obtain⟨o,i,f,rfl,j,g,n⟩:=T9 k;have:=ah j l d.2.1;simp only[VR]at this;exact wpIn_cond_split this (λe=>h e i g r (λe=>hr (by simp[aT.hasRF,e])) w0 S0 E a w d) (λe=>m e f n r (λe=>hr (by simp[aT.hasRF,e])) w0 S0 E a w d)
def V5(id:Nat)(Q:Exit->Tm->List Blk->Prop):Exit->Tm->List Blk->Prop
 |.exit id',T,L=>if id'=id then Q .normal T L else Q (.exit id') T L
 |e,T,L=>Q e T L
theorem cO{x:Opd}{y z:aT}(n:evX T x=some .anyb)(i:AW P N own y Q T L)(o:AW P N own z Q T L):AW P N own (.cond x y z) Q T L:=λc m r hr w0 S0 E a w d=>by obtain⟨p,k,g,rfl,j,l,h⟩:=T9 m;have f:=ah j n d.2.1;simp only[VR]at f;obtain⟨b,f⟩:=f;exact wpIn_cond_split f (λ_=>i k l r (λe=>hr (by simp[aT.hasRF,e])) w0 S0 E a w d) (λ_=>o g h r (λe=>hr (by simp[aT.hasRF,e])) w0 S0 E a w d)
theorem gg{id:Nat}{x:aT}(h:AW P N own x (V5 id Q) T L):AW P N own (.block id x) Q T L:=λc hc r hr w0 S0 E a w hst=>by
 obtain⟨c1,rfl,h1⟩:=XS hc;refine wpIn_block (wpIn_mono (h c1 h1 r (λe=>hr (by simp[aT.hasRF,e])) w0 S0 E a w hst) λe a' w' ⟨w1,S1,E',T',L',b,g1,g2,g3⟩=>?_);cases e
 case exit i =>
  simp only[V5]at g2;simp only[Exit.inBlock];split at g2
  .rename_i e;rw[if_pos e];exact⟨w1,S1,E',T',L',b,g1,g2,g3⟩
  .rename_i e;rw[if_neg e];exact⟨w1,S1,E',T',L',b,g1,g2,g3⟩
 all_goals exact⟨w1,S1,E',T',L',b,g1,g2,g3⟩
def S7(Q:Exit->Tm->List Blk->Prop):Exit->Tm->List Blk->Prop
 |.goto _,_,_=>False
 |e,T,L=>Q e T L
theorem aaH:S7 Q .normal T L=Q .normal T L:=rfl
theorem aaI{i:Nat}:S7 Q (.exit i) T L=Q (.exit i) T L:=rfl
theorem aaG:S7 Q .ret T L=Q .ret T L:=rfl
attribute [push_cast] aaH aaI aaG
theorem fX{x:aT}(h:AW P N own x (S7 Q) T L):AW P N own (.scope x) Q T L:=λc hc r hr w0 S0 E a w hst=>by
 obtain⟨c1,rfl,h1⟩:=sN hc;refine UX (wpIn_mono (h c1 h1 r (λe=>hr (by simp[aT.hasRF,e])) w0 S0 E a w hst) λe a' w' ⟨w1,S1,E',T',L',b,g1,g2,g3⟩=>?_);cases e
 case goto l=>exact g2.elim
 all_goals exact⟨w1,S1,E',T',L',b,g1,g2,g3⟩
theorem fY(h:Q .normal T L):AW P N own .label Q T L:=λc d r hr w0 S0 E a w b=>by obtain⟨l,rfl⟩:=sN d;exact wpIn_label ⟨w0,S0,E,T,L,.refl _ _,.refl E,h,b⟩
theorem SF(p:Nat->Prop):∀n,p n->∃m,p m/\∀k,p k->m<=k:=by
 intro n;induction n using Nat.strongRecOn with
 | _ n ih =>
   intro c;by_cases h:∃k,k<n/\p k
   .obtain⟨k,a,h2⟩:=h;exact ih k a h2
   .refine⟨n,c,λk b=>?_⟩;rcases aft k n with a|a
    .exact absurd ⟨k,a,b⟩ h
    .exact a
theorem St.draw{E:Env}{a:Act}{w:World}{T:Tm}{L:List Blk}(h:St w0 S0 N E T L a w)(n:Nat):St w0 S0 N E T L a {w with drawn:=n}:=⟨h.1.draw n,h.2⟩
theorem Q3{qk:List (aj×Kd)}{ts:List aj}(h:AG P (mN P (Q .normal) ts) qk [L] [] T):AW P N own (.dregion qk ts) Q T L:=λc q r hr w0 S0 E a w b=>by
 obtain⟨id,os,j,n,rfl,p,l,u,h4,f,rfl,t⟩:=OD q;refine wpIn_region_any h4 ?_;have s:qk.length=n:=by have:=congrArg List.length f;simp at this;omega
 exact UH (w0:=w0) (S0:=S0) (L:=L) (T:=T) (Q:=λe d w'=>∃i g E' T' L',Bs w0 S0 i g/\E.le E'/\Q e T' L'/\St i g N E' T' L' d w') (K:=Q .normal) (E0:=E) p l (by rw[f,ago]) s t h (λE' T' L' d w' k o m=>⟨w0,S0,E',T',L',.refl _ _,k,o,m⟩) a _ E (.refl E) (b.draw _)
def adc(mask:List Bool)(T:Tm):Bool:=(mask.zip T).all λp=>p.1 ||(ar (sel mask T) p.2.1).isNone
theorem Py:∀{a:List Bool}{T:Tm}{t:Nat}{v:AV},(∀p∈a.zip T,p.1=true\/p.2.1≠t)->ar (sel a T) t=some v->ar T t=some v
 |[],T,t,v,_,h=>by rwa[Wp]at h
 |true::m,[],t,v,_,h=>by simp[sel,ar]at h
 |false::m,[],t,v,_,h=>by simp[sel,ar]at h
 | true::m,x::T,t,v,hm,h=>by
   obtain⟨k,u⟩:=x;rw[acK]at h;simp only[ar]at h⊢;split
   .rename_i e;rw[if_pos e]at h;exact h
   .rename_i e;rw[if_neg e]at h;exact Py (λp b=>hm p (by simp only[List.zip_cons_cons,afp];exact .inr b)) h
 | false::m,x::T,t,v,hm,h=>by
   obtain⟨k,u⟩:=x;rw[acL]at h;have c:k≠t:=by
    rcases hm (false,(k,u)) ah4 with h|h
    .cases h
    .exact h
   simp only[ar];rw[if_neg c];exact Py (λp b=>hm p (by simp only[List.zip_cons_cons,afp];exact .inr b)) h
theorem G2{a:List Bool}{T:Tm}{t:Nat}{v:AV}(c:adc a T=true)(h:ar (sel a T) t=some v):ar T t=some v :=
 Py (λp d=>by
  have:=afd.1 c p d;rcases Bool.or_eq_true_iff.1 this with b|b;exact .inl b;refine .inr λe=>?_
  rw[e,h]at b;cases b) h
def QX(mask:List Bool)(K:Tm->List Blk->Prop)(T:Tm)(L:List Blk):Prop:=adc mask T=true/\K (sel mask T) L
theorem jK{a:List Bool}{K:Tm->List Blk->Prop}{T:Tm}{L:List Blk}(b:adc a T=true)(c:K (sel a T) L):QX a K T L:=⟨b,c⟩
def frB(ds:List Nat)(T:Tm):Bool:=ds.all λd=>(ar T d).isNone
theorem jO{b:List SOp}{f:List Bool}(i:(okS b&&frB (gds b) T)=true)(h:SL P b (QX f (Q .normal)) T L):AW P N own (.sreg b f) Q T L:=λc m r hr w0 S0 E a w g=>by obtain⟨id,os,rfl,l⟩:=JE m;rw[ae7]at i;refine wpIn_region (Em b i.1 l g (λd hd=>?_) h λE' T' L' o w' k j h4=>⟨w0,S0,E',sel f T',L',.refl _ _,k,j.2,h4.weak (λt v n=>G2 j.1 n) rfl λ_ _ e=>.inr e⟩);have:=afd.1 i.2 d hd;simpa using this
def adS(mask:List Bool)(K:Tm->List Blk->Prop)(L:List Blk)(T:Tm):Prop:=QX mask K T L
theorem acu{a:List Bool}{K:Tm->List Blk->Prop}{T:Tm}{L:List Blk}:adS a K L T=QX a K T L:=rfl
theorem fW{b:List SOp}{kds:List Kd}{f:List Bool}(D:(okG none [] [] b&&frB (gds b) T&&decide (kds.length<=(SOp.flatL b).length))=true)(h:GL P L b (adS f (Q .normal) L) T):AW P N own (.sdreg b kds f) Q T L:=λc M r hr w0 S0 E a w u=>by
 obtain⟨id,os,g,n,rfl,B,G,h3,h4,F,Y,_⟩:=OD M;simp only[ae7,decide_eq_true_eq]at D;obtain⟨⟨X,S⟩,f3⟩:=D;have q:g=SOp.flatL b:=by
  have x:((SOp.flatL b).zip kds).map (·.1)=(SOp.flatL b).take kds.length:=by
   have key:∀(l:List aj) (m:List Kd),(l.zip m).map (·.1)=l.take m.length:=by
    intro l;induction l with
    |nil=>intro m;simp
    |cons o l ih=>intro m;cases m<;>simp[ih]
   exact key _ _
  rw[x]at F;rw[<- ago n g,<- F,<- Y,ago]
 have C:g.length=os.size:=by simpa using(za B).1
 refine wpIn_region_any h4 ?_;have j:GB os g g.length=true:=by simp only[GB,ae7]at G⊢;refine⟨G.1,?_⟩;simp only[VZ,afd,List.mem_range,afM,decide_eq_true_eq];exact λi Z=>.inl ah3
 have s:=Yp (P:=P) (L:=L) X (T:=T) (λd hd=>by have:=afd.1 S d hd;simpa using this) h
 refine UH (w0:=w0) (S0:=S0) (L:=L) (T:=T) (Q:=λe z w'=>∃I H E' T' L',Bs w0 S0 I H/\E.le E'/\Q e T' L'/\St I H N E' T' L' z w') (E0:=E) (qk:=g.map λo=>(o,.read 0 0)) (ts:=[]) B j (by simp[afj,Function.comp_def]) ah4 ?_ (K:=λT1 L'=>L'=L/\∃T',adS f (Q .normal) L T'/\∀t v,ar T' t=some v->ar T1 t=some v)
  ?_ (λE' T' L' z w' x ⟨V,U,A,J⟩ O=>?_) a _ E (.refl E) (u.draw _)
 have y:∀(l:List aj) (k:Nat),dA (l.map λo=>(o,Kd.read 0 0)) k=[]:=by
  intro l;induction l with
  |nil=>intro k;rfl
  |cons o l ih=>intro k;simp only[afe,dA];exact ih _
 simp only[MO,y,afF,List.range_zero,agO,afU,afd];intro p W;obtain⟨⟨o,kd⟩,i⟩:=p;have:kd=Kd.read 0 0:=by have:=List.fst_mem_of_mem_zipIdx W;simp only[ae1]at this;obtain⟨o',_,e⟩:=this;cases e;rfl
 subst this;rfl;rw[q];exact s;subst V;exact⟨w0,S0,E',sel f U,_,.refl _ _,x,A.2,O.weak (λt v R=>J t v (G2 A.1 R)) rfl λ_ _ e=>.inr e⟩
theorem fZ{qk:List (aj×Kd)}{ts:List aj}{d:List Bool}(h:AG P (mN P (QX d (Q .normal)) ts) qk [L] [] T):AW P N own (.dregM qk ts d) Q T L:=λc i r hr w0 S0 E a w f=>by
 have:=Q3 (N:=N) (own:=own) (Q:=λe T' L'=>e=.normal/\QX d (Q .normal) T' L') (L:=L) (T:=T) (qk:=qk) (ts:=ts) (P:=P) ?_ c i r hr w0 S0 E a w f;refine wpIn_mono this λe m w' ⟨k,j,E',T',L',b,g1,⟨g,g3⟩,g4⟩=>?_
 subst g;exact⟨k,j,E',sel d T',L',b,g1,g3.2,g4.weak (λt v l=>G2 g3.1 l) rfl λ_ _ e=>.inr e⟩;have e:(λT' L'=>Exit.normal=Exit.normal/\QX d (Q .normal) T' L')=QX d (Q .normal):=by funext T' L';simp
 rw[e];exact h
theorem ed{ops:List aj}(h:mN P (Q .normal) ops T L):AW P N own (.region ops) Q T L:=λc f r hr w0 S0 E a w b=>by obtain⟨id,os,rfl,e⟩:=JE f;exact wpIn_region (J1 _ _ e b h λE' T' L' i w' d g h4=>⟨w0,S0,E',T',L',.refl _ _,d,g,h4⟩)
end
inductive UP where
 |tmp (t:Nat)
 |cell (agg:Bool) (sz t:Nat)
 deriving Inhabited
structure aI where
 ntmps:Nat
 code:aT
 res:List UP
 deriving Inhabited
def aI.raw(f:aI):aI:=⟨f.ntmps,f.code.raw,f.res⟩
def Jy(P:Program):List ResultVar->Option (List UP)
 |[]=>some []
 |.tmp t::l=>(Jy P l).map (.tmp t::·)
 | .cell a t::l=>match lr P t,bJ P t,Jy P l with
   |some g,some s,some m=>some (.cell g s a::m)
   |_,_,_=>none
def aK(P:Program)(own:Nat->Nat->Nat)(f:FuncId):Option aI :=
 match P.funcs[f]? with
 |none=>none
 | some fn=>if (fn.name == "runtime.NumGoroutine")=true then none else match fn.body with
   |none=>none
   | some c=>match aF P fn.ntmps own c,Jy P fn.results.toList with
     |some lc,some rs=>some ⟨fn.ntmps,lc,rs⟩
     |_,_=>none
def OO(T:Tm)(L:List Blk):List UP->Option (Prop×List AV)
 |[]=>some (True,[])
 | .tmp t::l=>match ar T t,OO T L l with
   |some v,some (c,m)=>some (c,v::m)
   |_,_=>none
 | .cell g sz t::l=>match (ar T t).bind (row L),OO T L l with
   |some (r,off),some (c,m)=>if g then some (off+sz<=r.length/\c,.agg ((r.drop off).take sz)::m)else some (off<r.length/\c,r.getD off .undef::m)
   |_,_=>none
def Sg:List AV->AV
 |[v]=>v
 |l=>.tup l
def am(i:Nat):List AV->Tm
 |[]=>[]
 |a::l=>(i,a)::am (i+1) l
section
variable {P:Program}{w0:World}{S0:SB}{N:Nat}{E:Env}{L:List Blk}{w:World}{T:Tm}{a:Act}
theorem Kg:∀{rs:List ResultVar}{ls:List UP}{c:Prop}{m:List AV},Jy P rs=some ls->OO T L ls=some (c,m)->c->Rel w0 S0 E L w->TR E T a ->
  ∃vs,VRL E m vs/\(rs.mapM (m:=Sem) fun
   |.tmp t=>pure (a.tmps.getD t undef)
   |.cell x t=>do loadVar t (<- asAddr (a.tmps.getD x undef))).run P w=.ok vs w
 |[],ls,c,m,hl,he,hc,hR,hT=>by simp[Jy]at hl;subst hl;simp[OO]at he;obtain⟨_,rfl⟩:=he;exact⟨[],by simp[VRL],ah4⟩
 | .tmp t::rs,ls,c,m,hl,he,hc,hR,hT=>by
   simp only[Jy,afr]at hl;obtain⟨k,f,rfl⟩:=hl;simp only[OO]at he;split at he<;>try cases he
   rename_i v c' G h i;obtain⟨vs,h4,q⟩:=Kg f i hc hR hT;exact⟨_::vs,⟨_,_,rfl,hT _ _ h,h4⟩,by simp only[ahq,ae8,afv,ae9,q]⟩
 | .cell x t::rs,ls,c,m,hl,he,hc,hR,hT=>by
   simp only[Jy]at hl;split at hl<;>try cases hl
   rename_i g s k B H f;simp only[OO]at he;split at he<;>try cases he
   rename_i r off c' G h i;rcases h6:ar T x with _|u
   .simp_all
   .simp only[h6,agw]at h;have D:=hT _ _ h6;obtain⟨b,o,F,d⟩:=MD hR h D;have p:(asAddr (a.tmps.getD x undef)).run P w=.ok ⟨b,o+off,none⟩ w:=(by rw[F];rfl);cases g
    .obtain⟨rfl,rfl⟩:=he;obtain⟨vs,h4,q⟩:=Kg f i hc.2 hR hT;obtain⟨y,n,C⟩:=d off r[off] (afn hc.1);refine⟨y::vs,⟨_,_,rfl,by rw[afh,afn hc.1];exact C,h4⟩,?_⟩;have z:(loadVar t ⟨b,o+off,none⟩).run P w=.ok y w:=(by simp[loadVar,yH B,n]);simp_all
    .obtain⟨rfl,rfl⟩:=he;obtain⟨vs,h4,q⟩:=Kg f i hc.2 hR hT;have e:((r.drop off).take s).length=s:=(by simp;omega);obtain⟨cs,n,C⟩:=OC (P:=P) (w:=w) (b:=b) (o:=o+off) (l:=(r.drop off).take s) B (by rw[e];exact H) (λj a A=>by have I:j<s:=(by have:=(aeY.1 A).1;omega);rw[afz I,afE]at A;have:=d _ _ A;rwa[<- af3]at this)
     refine⟨.agg ⟨cs⟩::vs,⟨_,_,rfl,⟨cs,rfl,n⟩,h4⟩,?_⟩;simp_all
theorem Y9{m:List AV}{vs:List Value}(h:VRL E m vs):VR E (Sg m) (if h:vs.length=1 then vs[0]else .tuple ⟨vs⟩):=by
 have a:=h.length;by_cases b:vs.length=1
 match m,vs,h,a,b with
 | [x],[y],h,_,_ =>
   obtain⟨_,_,⟨rfl,rfl⟩,c,_⟩:=h;exact c
 rw[dif_neg b];have:Sg m=.tup m:=by
  match m,a with
  |[],_=>rfl
  |[x],a=>simp at a;exact absurd a b
  |_::_::_,_=>rfl
 rw[this];exact⟨vs,rfl,h⟩
theorem P4:∀{args:List AV}{i t:Nat}{v:AV},ar (am i args) t=some v->i<=t/\args[t-i]?=some v
 |[],i,t,v,h=>by simp[am,ar]at h
 | x::args,i,t,v,h=>by
   simp only[am,ar]at h;split at h
   .simp[*]
   .rename_i e;have:=P4 h
    grind
def Fin(L0:List Blk)(r:AV)(L:List Blk)(Q:AV->List Blk->Prop):Prop :=
 ∀(w0:World) (S0:SB) (E0 E:Env) (w:World) (v:Value),E0.le E->(∀i,L0.length<=i->E0.loc i=none/\E0.tok i=none)->(∀k∈L0,k.refs (λi=>decide (i<L0.length))=true) ->
  Rel w0 S0 E L w->VR E r v->∃E' av L',E0.le E'/\Q av L'/\VR E' av v/\Rel w0 S0 E' L' w
mutual
theorem VR.refs{n:Nat}(g:∀i,n<=i->E.loc i=none)(j:∀i,n<=i->E.tok i=none):∀(a:AV) (v:Value),VR E a v->a.refs (λi=>decide (i<n))=true
 |.undef,_,_=>rfl
 |.bool _,_,_=>rfl
 |.anyb,_,_=>rfl
 |.int _ _,_,_=>rfl
 |.str _,_,_=>rfl
 |.nilptr,_,_=>rfl
 |.gptr _ _,_,_=>rfl
 | .ptr i off,v,r=>by
   simp only[VR]at r;obtain⟨c,h,_⟩:=r;simp only[AV.refs,decide_eq_true_eq];rcases aft i n with e|e
   .exact e
   .rw[g i e]at h;cases h
 |.iptr l off,v,r=>by simp only[VR]at r;obtain⟨b,o,_,h⟩:=r;exact VRC.refs g j l b o h
 |.nilsl,_,_=>rfl
 | .sl l m cap,v,r=>by
   simp only[VR]at r;obtain⟨p,c,_,_,_,h⟩:=r;rcases h with⟨_,_,_,rfl⟩|⟨b,o,_,h⟩
   .rfl
   .exact VRC.refs g j l b o h
 | .gsl l m i sz,v,r=>by
   simp only[VR]at r;obtain⟨p,c,_,_,_,h,t,k,_⟩:=r;simp only[AV.refs,decide_eq_true_eq,ae7];refine⟨?_,?_⟩
   .rcases aft i n with e|e
    .exact e
    .rw[j i e]at k;cases k
   .rcases h with⟨_,_,_,rfl⟩|⟨b,o,_,h⟩
    .rfl
    .exact VRC.refs g j l b o h
 | .lsl i off len cap sz,v,r=>by
   simp only[VR]at r;obtain⟨c,q,d,h,_⟩:=r;simp only[AV.refs,decide_eq_true_eq];rcases aft i n with e|e
   .exact e
   .rw[g i e]at h;cases h
 |.nilmap,_,_=>rfl
 | .lmap i,v,r=>by
   simp only[VR]at r;obtain⟨c,h,_⟩:=r;simp only[AV.refs,decide_eq_true_eq];rcases aft i n with e|e
   .exact e
   .rw[g i e]at h;cases h
 | .yld i,v,r=>by
   simp only[VR]at r;obtain⟨c,h,_⟩:=r;simp only[AV.refs,decide_eq_true_eq];rcases aft i n with e|e
   .exact e
   .rw[g i e]at h;cases h
 |.func f caps,v,r=>by simp only[VR]at r;obtain⟨vs,_,h⟩:=r;exact VRL.refs g j caps vs h
 |.nilfunc,_,_=>rfl
 |.nilif,_,_=>rfl
 |.iface t x,v,r=>by simp only[VR]at r;obtain⟨y,_,h⟩:=r;exact VR.refs g j x y h
 |.agg l,v,r=>by simp only[VR]at r;obtain⟨vs,_,h⟩:=r;exact VRL.refs g j l vs h
 |.tup l,v,r=>by simp only[VR]at r;obtain⟨vs,_,h⟩:=r;exact VRL.refs g j l vs h
theorem VRL.refs{n:Nat}(b:∀i,n<=i->E.loc i=none)(c:∀i,n<=i->E.tok i=none):∀(l:List AV) (vs:List Value),VRL E l vs->AV.refsL (λi=>decide (i<n)) l=true
 |[],_,_=>rfl
 |a::l,vs,r=>by simp only[VRL]at r;obtain⟨x,xs,_,e,d⟩:=r;simp only[AV.refsL,ae7];exact⟨VR.refs b c a x e,VRL.refs b c l xs d⟩
theorem VRC.refs{n:Nat}(c:∀i,n<=i->E.loc i=none)(d:∀i,n<=i->E.tok i=none):∀(l:List AV) (b o:Nat),VRC E l b o->AV.refsL (λi=>decide (i<n)) l=true
 |[],_,_,_=>rfl
 |a::l,b,o,r=>by simp only[VRC]at r;obtain⟨⟨x,_,f⟩,e⟩:=r;simp only[AV.refsL,ae7];exact⟨VR.refs c d a x f,VRC.refs c d l b (o+1) e⟩
end
theorem aA.refs{n:Nat}(a:∀i,n<=i->E.loc i=none)(c:∀i,n<=i->E.tok i=none):∀{l:List (AV×AV×Nat)}{es:List MapEntry},aA E l es->(l.all λe=>e.1.refs (λi=>decide (i<n))&&e.2.1.refs (λi=>decide (i<n)))=true
 |[],_,_=>rfl
 |(k,x,b)::l,es,r=>by simp only[aA]at r;obtain⟨e,t,_,g,d,_,f⟩:=r;simp only[af2,ae7];exact⟨⟨VR.refs a c _ _ g,VR.refs a c _ _ d⟩,aA.refs a c f⟩
theorem Rel.refs(h:Rel w0 S0 E L w):∀k∈L,k.refs (λi=>decide (i<L.length))=true:=λk o=>by
 obtain⟨i,n⟩:=agD.1 o;have e:=h.blk i k n;cases k<;>simp only[bg]at e;rfl;obtain⟨c,cs,ty,fr,_,_,_,_,b,_⟩:=e;refine AV.refsL_iff.2 λa f=>?_
 obtain⟨j,g⟩:=agD.1 f;obtain⟨v,_,l⟩:=b j a g;exact VR.refs h.fresh h.tkfresh _ _ l;obtain⟨c,rs,_,_,p⟩:=e;exact aA.refs h.fresh h.tkfresh p;rename_i m _ _ _;obtain⟨c,q,_,_,_,h4⟩:=e;cases m with
 |none=>rfl
 | some j =>
   obtain⟨d,g1,_⟩:=h4;simp only[Blk.refs,decide_eq_true_eq];rcases aft j L.length with b|b
   .omega
   .rw[h.fresh j b]at g1;cases g1
 rfl;obtain⟨c,cs,ty,fr,_,_,_,_,b,_⟩:=e;refine AV.refsL_iff.2 λa f=>?_
 obtain⟨j,g⟩:=agD.1 f;obtain⟨v,_,l⟩:=b j a g;exact VR.refs h.fresh h.tkfresh _ _ l;rfl;obtain⟨c,D,tm,_,_,_,_,b⟩:=e;simp only[Blk.refs,afd];rintro⟨t,u⟩ _;rcases hl:ar _ t with _|v;rfl;simpa using VR.refs h.fresh h.tkfresh _ _ (b t v hl)
def acA(res:List UP)(L0:List Blk)(Q:AV->List Blk->Prop)(e:Exit)(T:Tm)(L':List Blk):Prop :=
 (e=.normal\/e=.ret)/\∃c rs,OO T L' res=some (c,rs)/\c/\Fin L0 (Sg rs) L' Q
theorem Rel.shut{w0 w:World}{S0:SB}{E:Env}{L:List Blk}(h:Rel w0 S0 E L w){D:Nat}(A:w0.heap.size<=D)(f:¬Mt E L D)(s:w.heap[D]?=some (.deferred (some []))):Rel w0 S0 E L (w.putObj D (.deferred none)):=by
 have same:∀k,k≠D->(w.putObj D (.deferred none)).heap[k]?=w.heap[k]?:=λk a=>ahh a
 refine⟨λb o v u=>?_,λi k a=>?_,h.fresh,h.own,h.inj,h.tkfresh,h.tkown,h.tkloc,h.tkinj,λk a m=>?_,by simpa using h.size,h.os,h.tape,h.output,h.glob,λp q l=>?_⟩;have d:=h.mem b o v u;have x:b≠D:=λe=>by subst e;simp[World.cell?,s]at d
 simp only[World.cell?]at d⊢;simp_all;cases hl:k.live;refine bg.still hl rfl (λt c n sz e r j=>?_) (h.blk i k a);exact same _ λg=>f (.inr ⟨i,n,sz,t,c,e▸a,r,j,g⟩)
 refine bg.worldL hl (λc j=>?_) (h.blk i k a);exact same _ λg=>f (.inl ⟨i,k,c,a,hl,j,g⟩)
 rw[same k ah3];exact h.frame k a m;obtain⟨cs,ty,fr,z,y⟩:=h.gsz p q l
 grind
theorem Rs{fn:Func}{tmps:Array Value}{R:Ending->World->Prop}{wE:World}{SE:SB}{E:Env}{L:List Blk}(c:∀w,Rel wE SE E L w->∃v,(results fn tmps).run P w=.ok v w/\R (.returned v) w):
  ∀(ds:List Deferred) (w:World),Rel wE SE E L w->ds.Nodup->(∀d∈ds,∃D,d=mkD D/\wE.heap.size<=D/\¬Mt E L D/\w.heap[D]?=some (.deferred (some [])))->LeavesInM (fB none) 0 P fn tmps R ds .returning w
 |[],w,h,_,_=>c w h
 |d::ds,w,h,hn,hd=>by obtain⟨D,rfl,k,g,b⟩:=hd _ ahv;obtain⟨f,i⟩:=afY.1 hn;refine⟨λe=>(by cases e),.inl ⟨D,_,rfl,run_takeDeferred b,Rs c ds _ (h.shut k g b) i λd a=>?_⟩⟩;obtain⟨l,rfl,m,j,n⟩:=hd d (agB _ a);refine⟨l,rfl,m,j,?_⟩;rw[ahh λe=>f (by subst e;exact a)];omega
theorem aa{own:Nat->Nat->Nat}{f:FuncId}{j:aI}(h:aK P own f=some j.raw){args:List AV}{L:List Blk}{Q:AV->List Blk->Prop}(k:args.length<=j.ntmps)(J:AW P j.ntmps own j.code (acA j.res L Q) (am 0 args) L):ac P f args L Q:=by
 intro w0 S0 E w vs m I;obtain⟨nt,code,Z⟩:=j;simp only[aI.raw]at h k J;unfold aK at h;split at h;cases h;rename_i fn l;split at h;cases h;rename_i a;split at h;cases h;rename_i c H;split at h<;>try cases h
 rename_i lc rs q u;refine .inl ⟨?_,?_⟩;have:(fn.name == "runtime.NumGoroutine")=false:=by simpa using a
 simp only[callFunc,ae8,run_program,ae9,l,this,H,Option.isNone_some,afm,if_false,afv];refine(callsIn_wide (n:=0)).1 (callsIn_of_wp_marks (F:=fB none) l H trivial ?_);have U:=I.length;have s:St w ⟨Mt E L,w.heap.size⟩ fn.ntmps E (am 0 args) L {tmps:=(⟨vs⟩:Array Value)++Array.replicate (fn.ntmps-vs.length) undef,defers:=[]} w:=by refine⟨m.enter _,λt x hx=>?_,by simp;omega,UO.nil (ae0 _)⟩;obtain⟨_,p⟩:=P4 hx;simp only[ag2]at p;obtain⟨y,B,N⟩:=I.get p;have C:t<vs.length:=(aeY.1 B).1;rw[agl,ahw (by simpa using C)];simp[*]
 refine wpIn_mono (J c q none (λ_=>rfl) w _ E _ w s) λe A w' ⟨w1,S1,E',T',L',b,g1,⟨W,c',V,g3,g4,X⟩,g⟩=>?_
 have key:LeavesInM (fB none) 0 P fn A.tmps (λe w'=>∃E' v av L',e=.returned v/\E.le E'/\Q av L'/\VR E' av v/\Rel w0 S0 E' L' w') A.defers .returning w':=by
  refine Rs (wE:=w) (SE:=⟨Mt E L,w.heap.size⟩) (E:=E') (L:=L') (λz o=>?_) _ _ (b.rel g.1) g.2.2.2.2.1 λd hd=>?_
  obtain⟨us,Y,R⟩:=Kg u g3 g4 o g.2.1;obtain⟨ab,av,O,k3,k4,k5,k6⟩:=X w0 S0 E E' z _ g1 (λi G=>⟨m.fresh i G,m.tkfresh i G⟩) m.refs (m.back o) (Y9 Y);have M:(results fn A.tmps).run P z=.ok (if h:us.length=1 then us[0]else .tuple ⟨us⟩) z:=by unfold results;rw[Array.mapM_eq_mapM_toList];simp only[ae8,Sem.run_map];refine(congrArg (λr=>(Result.andThen r λx w=>Result.ok x.toArray w).andThen _) R).trans ?_;simp
  grind
  obtain⟨D,p,K,B,N,h4⟩:=g.2.2.2.2.2 d hd;refine⟨D,p,by rw[b.low]at K;exact K,λS=>?_,?_⟩;rcases g.1.ownSub D S with T|T;simp_all;omega;rw[g.1.frame D B N];exact h4
 rcases W with rfl|rfl<;>exact key
theorem ag{L0 L:List Blk}{r:AV}{Q:AV->List Blk->Prop}(h:Q r L):Fin L0 r L Q:=λw0 S0 E0 E w v a _ _ b c=>⟨E,r,L,a,h,c,b⟩
theorem Zb{E0 E:Env}{n m:Nat}(d:E0.le E)(l:∀i,n<=i->E0.loc i=none/\E0.tok i=none)(k:n<=m)(g:Nat->Nat)(h:∀i,i<n->g i=i):E0.le (E.res m g):=by
 have lt:∀i,(E0.loc i≠none\/E0.tok i≠none)->i<n:=λi a=>by grind
 refine⟨λb o x j=>d.mem b o x j,λi c f=>?_,λi t e=>?_⟩;have a:=lt i (.inl (by simp[f]));rw[Env.res_loc ah3,h i a];exact d.loc i c f;have a:=lt i (.inr (by simp[e]));rw[Env.res_tok ah3,h i a];exact d.tok i t e
theorem aaL{L0 L1 L2:List Blk}{r:AV}{Q:AV->List Blk->Prop}(g:L1.length=L0.length)(d:(∀k∈L0,k.refs (λi=>decide (i<L0.length))=true)->∀k∈L1,k.refs (λi=>decide (i<L0.length))=true)(hr:r.refs (λi=>decide (i<L0.length))=true)(h:Q r L1):Fin L0 r (L1++L2) Q:=λw0 S0 E0 E w v f m l n o=>by
 have a:=n.cut (by rw[g];exact d l);refine⟨E.res L1.length id,r,L1,Zb f m ah3 id (λ_ _=>rfl),h,VR.cut (E:=E) (E':=E.res L1.length id) (p:=λi=>decide (i<L0.length)) (λ_ _ _ x=>x) (λi c b j=>?_) (λi t b e=>?_) r v hr o,a⟩
 .rw [Env.res_loc (by have : i < L0.length := by simpa using b
                      omega)];exact j
 .rw [Env.res_tok (by have : i < L0.length := by simpa using b
                      omega)];exact e
theorem aB{L0 L:List Blk}{r:AV}{Q:AV->List Blk->Prop}(h:Fin L0 r.frz L Q):Fin L0 r L Q:=λw0 S0 E0 E w v a c b d e =>
 h w0 S0 E0 E w v a c b d (VR.frz _ _ e)
theorem aaO{res:List UP}{L0 L':List Blk}{T:Tm}{Q:AV->List Blk->Prop}{c:Prop}{rs:List AV}(h:OO T L' res=some (c,rs))(a:c)(b:Fin L0 (Sg rs) L' Q):acA res L0 Q .ret T L':=⟨.inr rfl,c,rs,h,a,b⟩
theorem Mx{res:List UP}{L0 L':List Blk}{T:Tm}{Q:AV->List Blk->Prop}{c:Prop}{rs:List AV}(h:OO T L' res=some (c,rs))(a:c)(b:Fin L0 (Sg rs) L' Q):acA res L0 Q .normal T L':=⟨.inl rfl,c,rs,h,a,b⟩
theorem af{L0 L2:List Blk}{r:AV}{Q:AV->List Blk->Prop}(hr:r.refs (λi=>decide (i<L0.length))=true)(h:Q r L0):Fin L0 r (L0++L2) Q :=
 aaL rfl (λh=>h) hr h
mutual
def AV.snap(i:Nat)(l:List AV):AV->AV
 |.lsl j off n cap s=>if j=i then .sl ((l.drop off).take (n*s)) n cap else .lsl j off n cap s
 |.agg xs=>.agg (AV.snapL i l xs)
 |.tup xs=>.tup (AV.snapL i l xs)
 |a=>a
def AV.snapL(i:Nat)(l:List AV):List AV->List AV
 |[]=>[]
 |a::xs=>AV.snap i l a::AV.snapL i l xs
end
mutual
theorem VR.snap{i:Nat}{l:List AV}{c:Loc}(h:E.loc i=some c)(g:VRC E l c.blk c.off):∀(a:AV) (v:Value),VR E a v->VR E (a.snap i l) v
 | .lsl j off n cap s,v,r=>by
   simp only[AV.snap];split
   .rename_i e;subst e;simp only[VR]at r⊢;obtain⟨c',m,d,b,rfl,f,o,h4,p⟩:=r;rw[h]at b;cases b;refine⟨_,m,rfl,o,h4,.inr ⟨c.blk,d,rfl,?_⟩⟩;rcases agf n with k|k
    .subst k;simp[VRC]
    .rw[f ah3];exact(g.drop off).take _
   .exact r
 |.agg xs,v,r=>by simp only[AV.snap,VR]at r⊢;obtain⟨vs,b,f⟩:=r;exact⟨vs,b,VRL.snap h g xs vs f⟩
 |.tup xs,v,r=>by simp only[AV.snap,VR]at r⊢;obtain⟨vs,b,f⟩:=r;exact⟨vs,b,VRL.snap h g xs vs f⟩
 |.undef,_,r=>r
 |.bool _,_,r=>r
 |.anyb,_,r=>r
 |.int _ _,_,r=>r
 |.str _,_,r=>r
 |.nilptr,_,r=>r
 |.gptr _ _,_,r=>r
 |.ptr _ _,_,r=>r
 |.iptr _ _,_,r=>r
 |.nilsl,_,r=>r
 |.sl _ _ _,_,r=>r
 |.gsl _ _ _ _,_,r=>r
 |.nilmap,_,r=>r
 |.lmap _,_,r=>r
 |.yld _,_,r=>r
 |.func _ _,_,r=>r
 |.nilfunc,_,r=>r
 |.nilif,_,r=>r
 |.iface _ _,_,r=>r
theorem VRL.snap{i:Nat}{l:List AV}{c:Loc}(b:E.loc i=some c)(e:VRC E l c.blk c.off):∀(xs:List AV) (vs:List Value),VRL E xs vs->VRL E (AV.snapL i l xs) vs
 |[],_,r=>r
 |a::xs,vs,r=>by simp only[AV.snapL,VRL]at r⊢;obtain⟨x,d,h,f,g⟩:=r;exact⟨x,d,h,VR.snap b e a x f,VRL.snap b e xs d g⟩
end
theorem GX{L0 L:List Blk}{r:AV}{Q:AV->List Blk->Prop}{i:Nat}{l:List AV}(a:L[i]?=some (.cells l))(h:Fin L0 (r.snap i l) (L.set i .dead) Q):Fin L0 r L Q:=λw0 S0 E0 E w v e j g d k=>by obtain⟨c,cs,ty,fr,b,_⟩:=d.blk i _ a;obtain⟨E',g1,f,g3,g4⟩:=d.snap a b;exact h w0 S0 E0 E' w v (e.trans g1) j g f (VR.snap (by rw[g4];exact b) g3 _ _ (VR.mono g1 _ _ k))
end
theorem SC(L:List α)(x:α)(l:List α):(L++x::l)[L.length]?=some x:=ah4
theorem zg(L l:List α)(k:Nat):(L++l)[L.length+k]?=l[k]?:=by grind
theorem abq(L:List α)(x y:α)(l:List α):(L++x::l).set L.length y=L++y::l:=by simp
theorem abp(L l:List α)(k:Nat)(y:α):(L++l).set (L.length+k) y=L++l.set k y:=by simp
theorem acs(L l m:List α):(L++l)++m=L++(l++m):=afa _ _ _
theorem ae{n:Int}(b : -9223372036854775808<=n)(a:n<9223372036854775808):IntKind.i64.wrap n=n:=by simp only[IntKind.wrap,IntKind.bits,IntKind.signed];simp;omega
theorem aeU(j:Nat)(h:j<9223372036854775807):IntKind.i64.wrap ((j:Int)+1)=(j:Int)+1:=ae ah3 ah3
theorem qQ{n:Int}(b:0<=n)(a:n<256):IntKind.u8.wrap n=n:=by simp only[IntKind.wrap,IntKind.bits,IntKind.signed];simp;omega
theorem Jm{n:Int}(b:0<=n)(a:n<18446744073709551616):IntKind.u64.wrap n=n:=by simp only[IntKind.wrap,IntKind.bits,IntKind.signed];simp;omega
theorem gc{P:Program}{N:Nat}{own:Nat->Nat->Nat}{Q:Exit->Tm->List Blk->Prop}{T:Tm}{L:List Blk}{x:Opd}{y z:aT}(a:evX T x=some (.bool true))(h:AW P N own y Q T L):AW P N own (.cond x y z) Q T L :=
 eZ a (λ_=>h) (λe=>by cases e)
theorem gf{P:Program}{N:Nat}{own:Nat->Nat->Nat}{Q:Exit->Tm->List Blk->Prop}{T:Tm}{L:List Blk}{x:Opd}{y z:aT}(a:evX T x=some (.bool false))(h:AW P N own z Q T L):AW P N own (.cond x y z) Q T L :=
 eZ a (λe=>by cases e) (λ_=>h)
def aeC(v:AV)(xs:List Int):Prop:=(v=.nilsl/\xs=[])\/∃cap,v=.sl (xs.map (AV.int .i64)) xs.length cap
theorem Xs{p:Nat->Bool}(xs:List Int):AV.refsL p (xs.map (AV.int .i64))=true:=AV.refsL_iff.2 λa b=>by obtain⟨x,_,rfl⟩:=ae1.1 b;rfl
theorem aeC.refs{p:Nat->Bool}{xs:List Int}(h:aeC v xs):v.refs p=true:=by rcases h with⟨rfl,_⟩|⟨cap,rfl⟩;rfl;exact Xs xs
theorem dZ{p:Prop}[Decidable p]{A B:Prop}(a:p->A)(b:¬p->B):if p then A else B:=by simp_all
theorem cN{p:Prop}[Decidable p]{A B:Prop}(a:p->B)(b:¬p->A):if ¬p then A else B:=by simp_all
def acV(L0 L':List Blk)(Q:AV->List Blk->Prop):Option (Prop×List AV)->Prop
 |some (c,rs)=>c/\Fin L0 (Sg rs) L' Q
 |none=>False
theorem V6{L0:List Blk}{Q:AV->List Blk->Prop}{c:Prop}{rs:List AV}:acV L0 L' Q (some (c,rs))=(c/\Fin L0 (Sg rs) L' Q):=rfl
theorem d9{res:List UP}{L0:List Blk}{T:Tm}{Q:AV->List Blk->Prop}(h:acV L0 L' Q (OO T L' res)):acA res L0 Q .ret T L':=by rcases hr:OO T L' res with _|⟨c,rs⟩;rw[hr]at h;exact h.elim;rw[hr]at h;exact aaO hr h.1 h.2
def Hid(p:Prop):Prop:=p
theorem hid{p:Prop}(h:p):Hid p:=h
theorem Hid.o{p:Prop}(h:Hid p):p:=h
theorem Kto{K:AV->List Blk->Prop}{L:List Blk}{a b:AV}(h:K a L)(e:a=b):K b L:=e▸h
def Rk(T' T:Tm):Prop:=∀p∈T',∃v,ar T p.1=some v/\(p.2=v\/p.2=v.frz)
theorem TR.sub{E:Env}{T:Tm}{a:Act}(r:TR E T a)(h:Rk T' T):TR E T' a:=λt v d=>by obtain⟨u,c,b⟩:=h _ (LY d);have:=r t u c;rcases b with b|b;simp_all;simp only at b;subst b;exact VR.frz _ _ this
theorem GV{T:Tm}:Rk [] T:=λp h=>by cases h
theorem kF{T:Tm}{t:Nat}{u:AV}(h:ar T t=some u)(e:v=u)(b:Rk T' T):Rk ((t,v)::T') T:=λp a=>by rcases afp.1 a with rfl|a;simp[*];exact b p a
theorem zy{T:Tm}{t:Nat}{u:AV}(h:ar T t=some u)(e:v=u.frz)(b:Rk T' T):Rk ((t,v)::T') T:=λp a=>by rcases afp.1 a with rfl|a;simp[*];exact b p a
def Cut(B:Nat)(T':Tm)(L':List Blk)(T:Tm)(L:List Blk):Prop :=
 Rk T' T/\∃X,L=L'++X/\B<=L'.length/\(X=[]\/((∀p∈T',p.2.refs (λi=>decide (i<L'.length))=true)/\∀k∈L',k.refs (λi=>decide (i<L'.length))=true))
theorem GZ{T:Tm}{L:List Blk}(h:Rk T' T)(a:B<=L.length):Cut B T' L T L:=⟨h,[],ah4,a,.inl rfl⟩
theorem CutS{B:Nat}{T' T:Tm}{L:List Blk}(a:Rk T' T:=by repeat' first|exact GV|refine kF rfl rfl ?_|refine zy rfl rfl ?_)(b:B<=L.length):Cut B T' L T L:=GZ a b
theorem CutL{B:Nat}{T' T:Tm}{L:List Blk}(a:Rk T' T:=by repeat' first|exact GV|refine kF rfl rfl ?_|refine zy rfl rfl ?_|refine kF rfl (congrArg (AV.int _) ah3) ?_|refine kF rfl (by first|(simp_all;done)|(simp_all;omega)|(simp_all;intros;omega)) ?_)(b:B<=L.length):Cut B T' L T L:=GZ a b
abbrev aeW:=@ac Tryz.prog
abbrev aeX:=AV->List Blk->Prop
abbrev Ctr(P:Program)(f:FuncId)(A:List AV)(v:AV):Prop:=∀{L:List Blk}{K:AV->List Blk->Prop},K v L->ac P f A L K
theorem aia{P:Program}{f:FuncId}{A:List AV}{v:AV}(h:Ctr P f A v):Hid (Ctr P f A v):=hid h
abbrev o0(x:LOp):SOp:=.op ⟨none,x,none⟩
abbrev o1(n:Nat)(x:LOp):SOp:=.op ⟨some n,x,none⟩
abbrev og(n t:Nat)(b:Bool)(x:LOp):SOp:=.op ⟨some n,x,some (t,b)⟩
abbrev od(n:Nat)(x:LOp)(k:Kd):aj×Kd:=(⟨some n,x,none⟩,k)
abbrev tm(t:Nat):Opd:=.tmp t
abbrev iv(n:Int):Opd:=.av (.int .i64 n)
attribute [push_cast] o0 o1 og od tm iv
abbrev ahW(x:List SOp)(m:List Bool)(r:aT):aT:=.seq (.sreg x m) r
abbrev ahX(t:Nat)(a b:aT):aT:=.cond (.tmp t) a b
abbrev ahY(t:Nat)(a:aT):aT:=.cond (.tmp t) (.seq a .ret) .skip
abbrev ahZ(n:Nat)(a:aT):aT:=.block n (.loop a)
abbrev ah0(t n:Nat):aT:=.cond (.tmp t) .skip (.exit n)
attribute [push_cast] ahW ahX ahY ahZ ah0
noncomputable abbrev ah1(n:Nat):=aK Tryz.prog (λ_ _=>1) n
abbrev ah2(c:aI):=some c.raw
abbrev Aa(a b:Nat):SOp:=.op ⟨some a,(.mv (.tmp b)),none⟩
abbrev Ab(a:Nat)(b:Int):SOp:=.op ⟨some a,(.mv (.av (.int .i64 b))),none⟩
abbrev Ac(a b c:Nat):SOp:=.op ⟨some a,(.load false b (.tmp c)),none⟩
abbrev Ad(a b c:Nat):SOp:=.op ⟨some a,(.faddr b (.tmp c)),none⟩
abbrev Ae(a b:Nat):SOp:=.op ⟨some a,(.nilchk (.tmp b)),none⟩
abbrev Af(a b:Nat):SOp:=.op ⟨some a,(.len false (.tmp b)),none⟩
abbrev Ag(a b c:Nat):SOp:=.op ⟨some a,(.call b [(.tmp c)]),none⟩
abbrev Ah(a b c:Nat):SOp:=.op ⟨some a,(.mv (.tmp c)),some (b,false)⟩
abbrev Ai(a b c:Nat):SOp:=.op ⟨none,(.store a (.tmp b) (.tmp c)),none⟩
abbrev Aj(a b:Nat)(c:Int):SOp:=.op ⟨some a,(.bin .add (.tmp b) (.av (.int .i64 c))),none⟩
abbrev Ak(a b c d:Nat):SOp:=.op ⟨some a,(.iaddr b (.tmp c) (.tmp d)),none⟩
abbrev Al(a:Nat):SOp:=.op ⟨some a,(.mv (.av (.bool false))),none⟩
abbrev Am(a b:Nat):SOp:=.op ⟨some a,(.extract (.tmp b) 0),none⟩
abbrev An(a b c:Nat):SOp:=.op ⟨some a,(.mv (.tmp c)),some (b,true)⟩
abbrev Ao(a b c:Nat):SOp:=.op ⟨some a,(.bin .lss (.tmp b) (.tmp c)),none⟩
abbrev Ap(a b:Nat):SOp:=.op ⟨some a,(.extract (.tmp b) 1),none⟩
abbrev Aq(a:Nat):SOp:=.op ⟨some a,(.mv (.av (.sl [] 0 (some 0)))),none⟩
abbrev Ar(a b:Nat):aj×Kd:=(⟨some a,(.mv (.tmp b)),none⟩,.pure)
abbrev As(a b c:Nat):aj×Kd:=(⟨some a,(.faddr b (.tmp c)),none⟩,.pure)
abbrev Au(a b c d e:Nat):aj×Kd:=(⟨some a,(.load false b (.tmp c)),none⟩,(.read d e))
abbrev Aw(a:Nat):SOp:=.op ⟨some a,(.mv (.av (.str []))),none⟩
abbrev Ax(a b c d:Nat):SOp:=.op ⟨some a,(.call b [(.tmp c),(.tmp d)]),none⟩
abbrev Ay(a b:Nat)(c:Int):SOp:=.op ⟨some a,(.bin .neq (.tmp b) (.av (.int .i64 c))),none⟩
abbrev Az(a b c:Nat):SOp:=.op ⟨some a,(.load true b (.tmp c)),none⟩
abbrev A0(a b:Nat)(c:Int):SOp:=.op ⟨some a,(.bin .eql (.tmp b) (.av (.int .i64 c))),none⟩
abbrev A1(a b c d:Nat):aj×Kd:=(⟨some a,(.nilchk (.tmp b)),none⟩,(.read c d))
abbrev A3(a b:Nat):SOp:=.op ⟨some a,(.box (.tmp b)),none⟩
abbrev A4(a b c d:Nat):SOp:=.op ⟨some a,(.load false c (.tmp d)),some (b,false)⟩
abbrev A6(a b:Nat):SOp:=.op ⟨some a,(.un .not (.tmp b)),none⟩
abbrev A7(a b c d:Nat):SOp:=.op ⟨some a,(.faddr c (.tmp d)),some (b,false)⟩
abbrev A8(a b:Nat):SOp:=.op ⟨some a,(.len true (.tmp b)),none⟩
abbrev A9(a b:Nat)(c:Int):SOp:=.op ⟨some a,(.bin .gtr (.tmp b) (.av (.int .i64 c))),none⟩
abbrev AA(a b:Nat):SOp:=.op ⟨some a,(.eqk false .ptr (.tmp b) (.av .nilptr)),none⟩
abbrev AB(a b c:Nat):SOp:=.op ⟨some a,(.bin .add (.tmp b) (.tmp c)),none⟩
abbrev AC(a:Nat):SOp:=.op ⟨some a,(.mv (.av (.bool true))),none⟩
abbrev AD(a b c:Nat)(d:Int):SOp:=.op ⟨some a,(.bin .gtr (.tmp c) (.av (.int .i64 d))),some (b,false)⟩
abbrev AE(a b:Nat):SOp:=.op ⟨some a,(.conv .u64 (.tmp b)),none⟩
abbrev AF(a:Nat):SOp:=.op ⟨some a,(.alloc [(.int .i64 0),(.str []),(.sl [] 0 (some 0))]),none⟩
abbrev AH(a b c:Nat):SOp:=.op ⟨some a,(.len false (.tmp c)),some (b,false)⟩
abbrev AI(a b:Nat)(c:Int):SOp:=.op ⟨some a,(.bin .lss (.tmp b) (.av (.int .i64 c))),none⟩
abbrev AJ(a b c:Nat)(d:Int):SOp:=.op ⟨some a,(.call b [(.tmp c),(.av (.int .i64 d))]),none⟩
abbrev AK(a:Nat):SOp:=.op ⟨some a,(.mv (.av .nilptr)),none⟩
abbrev AM(a b c d e:Nat):aj×Kd:=(⟨some a,(.call b [(.tmp c)]),none⟩,(.read d e))
abbrev AN(a b:Nat):SOp:=.op ⟨some a,(.bslice false 1 1 [(.str [])] [(0,(1,(.tmp b)))]),none⟩
abbrev AO(a b c d:Nat):SOp:=.op ⟨some a,(.load false c (.tmp d)),some (b,true)⟩
abbrev AP(a b:Nat)(c:Int):SOp:=.op ⟨some a,(.bin .sub (.tmp b) (.av (.int .i64 c))),none⟩
abbrev AS(a b:Nat):SOp:=.op ⟨some a,(.extract (.tmp b) 2),none⟩
abbrev AT(a b c d:Nat):SOp:=.op ⟨some a,(.faddr c (.tmp d)),some (b,true)⟩
abbrev AU(a b c:Nat):SOp:=.op ⟨some a,(.bin .neq (.tmp b) (.tmp c)),none⟩
abbrev AX(a b c:Nat):SOp:=.op ⟨some a,(.mget .int false .nilptr (.tmp b) (.tmp c)),none⟩
abbrev AY(a b c:Nat)(d:Int):SOp:=.op ⟨some a,(.bin .eql (.tmp c) (.av (.int .i64 d))),some (b,true)⟩
abbrev AZ(a b c d e:Nat):SOp:=.op ⟨some a,(.call b [(.tmp c),(.tmp d),(.tmp e)]),none⟩
abbrev Ba(a b c d:Nat)(e:Int):SOp:=.op ⟨some a,(.call b [(.tmp c),(.tmp d),(.av (.int .i64 e))]),none⟩
abbrev Bb(a b:Nat):SOp:=.op ⟨some a,(.call b []),none⟩
abbrev Bc(a b:Nat):SOp:=.op ⟨some a,(.bslice false 1 1 [(.sl [] 0 (some 0))] [(0,(1,(.tmp b)))]),none⟩
abbrev Bd(a b:Nat)(c:Int):SOp:=.op ⟨some a,(.bin .geq (.tmp b) (.av (.int .i64 c))),none⟩
abbrev Be(a b c:Nat):SOp:=.op ⟨some a,(.bin .eql (.tmp b) (.tmp c)),none⟩
abbrev Bf(a b:Nat)(c:Int):SOp:=.op ⟨some a,(.idxS (.tmp b) (.av (.int .i64 c))),none⟩
abbrev Bg(a b:Nat):SOp:=.op ⟨some a,(.b2s (.tmp b)),none⟩
abbrev Bh(a b c:Nat):aj×Kd:=(⟨some a,(.bin .add (.tmp b) (.tmp c)),none⟩,.pure)
abbrev Bi(a b c:Nat):SOp:=.op ⟨some a,(.app 1 1 16 [(.str [])] (.tmp b) (.tmp c)),none⟩
abbrev Bj(a b:Nat):SOp:=.op ⟨some a,(.conv .i64 (.tmp b)),none⟩
abbrev Bk(a:Nat):SOp:=.op ⟨some a,(.alloc [(.int .i64 0),(.sl [] 0 (some 0)),(.sl [] 0 (some 0)),(.sl [] 0 (some 0))]),none⟩
abbrev Bl(a:Nat):SOp:=.op ⟨some a,(.build [(.int .i64 0),(.sl [] 0 (some 0)),(.sl [] 0 (some 0)),(.sl [] 0 (some 0))] []),none⟩
abbrev Bm(a b c:Nat):SOp:=.op ⟨some a,(.bin .sub (.tmp b) (.tmp c)),none⟩
abbrev Bn(a b c:Nat):SOp:=.op ⟨some a,(.len false (.tmp c)),some (b,true)⟩
abbrev Bo(a b c:Nat)(d:Int):SOp:=.op ⟨some a,(.bin .eql (.tmp c) (.av (.int .i64 d))),some (b,false)⟩
abbrev Bp(a b c:Nat):SOp:=.op ⟨some a,(.app 1 1 1 [(.int .u8 0)] (.tmp b) (.tmp c)),none⟩
abbrev Bq(a:Nat):SOp:=.op ⟨some a,(.build [(.int .i64 0),(.str []),(.sl [] 0 (some 0))] []),none⟩
abbrev Br(a b:Nat):SOp:=.op ⟨some a,(.bslice false 3 1 [(.int .i64 0),(.str []),(.sl [] 0 (some 0))] [(0,(3,(.tmp b)))]),none⟩
abbrev Bt(a b c:Nat)(d:Int):SOp:=.op ⟨some a,(.bin .neq (.tmp c) (.av (.int .i64 d))),some (b,true)⟩
abbrev Bu(a:Nat):SOp:=.op ⟨some a,(.alloc [(.str []),(.sl [] 0 (some 0))]),none⟩
abbrev Bv(a b c:Nat):SOp:=.op ⟨some a,(.nilchk (.tmp c)),some (b,false)⟩
abbrev Bw(a b c:Nat):SOp:=.op ⟨some a,(.len true (.tmp c)),some (b,false)⟩
abbrev Bx(a b c:Nat):SOp:=.op ⟨some a,(.un .not (.tmp c)),some (b,false)⟩
abbrev By(a b c:Nat):SOp:=.op ⟨some a,(.app 1 1 24 [(.sl [] 0 (some 0))] (.tmp b) (.tmp c)),none⟩
abbrev Bz(a b c d e:Nat):SOp:=.op ⟨some a,(.iaddr c (.tmp d) (.tmp e)),some (b,false)⟩
abbrev B0(a b c:Nat):SOp:=.op ⟨some a,(.app 1 3 48 [(.int .i64 0),(.str []),(.sl [] 0 (some 0))] (.tmp b) (.tmp c)),none⟩
abbrev B3(a b c d:Nat):SOp:=.op ⟨some a,(.bin .neq (.tmp c) (.tmp d)),some (b,false)⟩
abbrev B4(a b c:Nat)(d:Int):SOp:=.op ⟨some a,(.iaddr b (.tmp c) (.av (.int .i64 d))),none⟩
abbrev B5(a b c:Nat):SOp:=.op ⟨some a,(.call b [(.tmp c),(.av (.sl [] 0 (some 0)))]),none⟩
abbrev B6(a b c:Nat):SOp:=.op ⟨some a,(.nilchk (.tmp c)),some (b,true)⟩
abbrev B7(a b c d e:Nat):SOp:=.op ⟨some a,(.call c [(.tmp d),(.tmp e)]),some (b,true)⟩
abbrev B8(a b c:Nat):SOp:=.op ⟨some a,(.callv (.tmp b) [(.tmp c)]),none⟩
abbrev B9(a b:Nat):SOp:=.op ⟨some a,(.bin .eql (.tmp b) (.av (.str []))),none⟩
abbrev BA(a b c:Nat)(d:Int):SOp:=.op ⟨some a,(.idxS (.tmp c) (.av (.int .i64 d))),some (b,false)⟩
abbrev BB(a b c d:Nat):SOp:=.op ⟨some a,(.call c [(.tmp d)]),some (b,false)⟩
abbrev BC(a b c:Nat):SOp:=.op ⟨some a,(.idxS (.tmp b) (.tmp c)),none⟩
abbrev BD(a b c:Nat):SOp:=.op ⟨some a,(.bin .eql (.tmp c) (.av (.int .u8 32))),some (b,true)⟩
abbrev BE(a b:Nat):SOp:=.op ⟨some a,(.bslice false 1 1 [(.int .u8 0)] [(0,(1,(.tmp b)))]),none⟩
abbrev BF(a b c:Nat):SOp:=.op ⟨some a,(.slS (.tmp b) (some (.tmp c)) none),none⟩
abbrev BG(a:Nat):SOp:=.op ⟨some a,(.alloc [(.str []),(.str [])]),none⟩
abbrev BH(a:Nat)(b:Int)(c:Nat):SOp:=.op ⟨some a,(.bin .add (.av (.int .i64 b)) (.tmp c)),none⟩
abbrev BI(a b:Nat)(c:Int)(d:Nat):SOp:=.op ⟨some a,(.call b [(.av (.int .i64 c)),(.tmp d)]),none⟩
abbrev BJ(a:Nat):SOp:=.op ⟨some a,(.alloc [(.int .u64 0),(.int .u64 0),(.int .u64 0),(.int .u64 0),(.str [])]),none⟩
abbrev BK(a b:Nat)(c d:Int):SOp:=.op ⟨some a,(.build [.nilptr,(.int .i64 0),(.int .i64 0)] [(0,(1,(.tmp b))),(1,(1,(.av (.int .i64 c)))),(2,(1,(.av (.int .i64 d))))]),none⟩
abbrev BM(a:Nat)(b:Int)(c:Nat):SOp:=.op ⟨some a,(.minmax true [(.av (.int .i64 b)),(.tmp c)]),none⟩
abbrev BN(a b c d:Nat):SOp:=.op ⟨some a,(.call c [(.tmp d)]),some (b,true)⟩
abbrev BO(a b c:Nat):SOp:=.op ⟨some a,(.eqk false .ptr (.tmp c) (.av .nilptr)),some (b,false)⟩
abbrev BP(a b c:Nat):SOp:=.op ⟨some a,(.app 2 1 16 [(.str [])] (.tmp b) (.tmp c)),none⟩
abbrev BQ(a b c:Nat)(d:Int):SOp:=.op ⟨some a,(.bin .lss (.tmp c) (.av (.int .i64 d))),some (b,false)⟩
abbrev BR(a b:Nat)(c:Int):SOp:=.op ⟨some a,(.slV 1 (.tmp b) (some (.av (.int .i64 c))) none none),none⟩
abbrev BS(a b c:Nat)(d:Int):SOp:=.op ⟨some a,(.bin .neq (.tmp c) (.av (.int .i64 d))),some (b,false)⟩
abbrev BT(a b:Nat):SOp:=.op ⟨some a,(.bin .eql (.tmp b) (.av (.int .u8 0))),none⟩
abbrev BU(a b c:Nat)(d:Int):SOp:=.op ⟨some a,(.bin .geq (.tmp c) (.av (.int .i64 d))),some (b,false)⟩
abbrev BV(a b:Nat)(c:Int):SOp:=.op ⟨some a,(.slS (.tmp b) (some (.av (.int .i64 c))) none),none⟩
abbrev BW(a b c:Nat)(d:Int):SOp:=.op ⟨some a,(.bin .sub (.tmp c) (.av (.int .i64 d))),some (b,true)⟩
abbrev BX(a:Nat):SOp:=.op ⟨some a,(.mv (.av (.int .u64 0))),none⟩
abbrev BY(a b c d e:Nat):aj×Kd:=(⟨some a,(.load true b (.tmp c)),none⟩,(.read d e))
abbrev BZ(a b c d e:Nat):aj×Kd:=(⟨some a,(.slS (.tmp b) (some (.tmp c)) none),none⟩,(.read d e))
abbrev Ca(a b c d:Nat):aj×Kd:=(⟨some a,(.len false (.tmp b)),none⟩,(.read c d))
abbrev Cb(a b c d e:Nat):SOp:=.op ⟨some a,(.call c [(.tmp d),(.tmp e)]),some (b,false)⟩
abbrev Cc(a:Nat):SOp:=.op ⟨some a,(.build [(.int .u64 0),(.int .u64 0),(.int .u64 0),(.int .u64 0),(.str [])] []),none⟩
abbrev LSO:=List SOp
abbrev Cd:List Bool:=[true,false]
abbrev Ce:List Bool:=[true,false,false]
abbrev Cf:List Bool:=[true,false,false,false]
abbrev Cg:List Bool:=[true,false,false,false,false]
abbrev Ch:List Bool:=[true,false,false,false,false,false,false]
abbrev Ci:List Bool:=[true,false,false,false,false,false]
abbrev Cj:List Bool:=[true,true,false]
abbrev Ck:List Bool:=[true,false,false,false,false,false,false,false]
abbrev Cl:List Bool:=[true,false,false,false,false,false,false,false,false,false]
abbrev Cm:List Bool:=[true,true,false,false,false,false,false]
abbrev Co:List Bool:=[true,true,false,false,false]
abbrev Cp:List Bool:=[true,true,true,false]
abbrev Cq:List Bool:=[false,false,false,false]
abbrev Cr:List Bool:=[true,true,false,false,false,false,false,false]
abbrev Cs:List Bool:=[true,true,true,false,false,false,false,false,false]
abbrev Ct:List Bool:=[true,true,false,false]
abbrev Cu:List Bool:=[false,false,false]
abbrev Cv:List Bool:=[true,false,false,false,false,false,false,false,false,false,false]
abbrev Cw:List Bool:=[true,true,false,false,false,false]
abbrev Cx:List Bool:=[true,true,false,false,false,false,false,false,false]
abbrev Cy:List Bool:=[true,true,false,false,false,false,false,false,false,false]
abbrev Cz:List Bool:=[false,false,false,false,false,false,false]
abbrev C0:List Bool:=[false,false]
abbrev C1:List Bool:=[false,false,false,false,false,false,false,false]
abbrev C2:List Bool:=[true,false,false,false,false,false,false,false,false]
abbrev C3:List Bool:=[false,false,false,false,false]
abbrev C4:List Bool:=[false,false,false,false,false,false]
abbrev C5:List Bool:=[true,true,false,false,false,false,false,false,false,false,false]
abbrev C6:List Bool:=[true,true,false,false,false,false,false,false,false,false,false,false]
abbrev C7:List Bool:=[true,true,true,false,false]
abbrev C8:List Bool:=[true,false,false,false,false,false,false,false,false,false,false,false,false,false,false,false,false]
abbrev C9:List Bool:=[true,true,true,false,false,false,false]
abbrev CA:List Bool:=[true,false,false,false,false,false,false,false,false,false,false,false,false]
abbrev CB:List Bool:=[false,false,false,false,false,false,false,false,false,false,false,false,false,false]
abbrev CC:List Bool:=[true,true,true,false,false,false,false,false]
abbrev CD:List Bool:=[true,false,false,false,false,false,false,false,false,false,false,false,false,false]
abbrev CE:List Bool:=[false,true,false,false,false,false,false,false]
abbrev CF:List Bool:=[false,false,false,false,false,false,false,false,false,false]
abbrev CG:List Bool:=[true,false,false,false,false,false,false,false,false,false,false,false,false,false,false]
abbrev CH:List Bool:=[true,true,true,false,false,false,false,false,false,false,false]
abbrev CI:List Bool:=[true,false,false,false,false,false,false,false,false,false,false,false]
abbrev CJ:List Bool:=[false,false,false,false,false,false,false,false,false]
abbrev CK:List Bool:=[false,false,false,false,false,false,false,false,false,false,false]
abbrev CL:List Bool:=[false,false,false,false,false,false,false,false,false,false,false,false,false,false,false,false,false,false,false]
abbrev CM:List Bool:=[false,true,false,false,false,false,false]
attribute [push_cast] Aa Ab Ac Ad Ae Af Ag Ah Ai Aj Ak Al Am An Ao Ap Aq Ar As Au Aw Ax Ay Az A0 A1 A3 A4 A6 A7 A8 A9 AA AB AC AD AE AF AH AI AJ AK AM AN AO AP AS AT AU AX AY AZ Ba Bb Bc Bd Be Bf Bg Bh Bi Bj Bk Bl Bm Bn Bo Bp Bq Br Bt Bu Bv Bw Bx By Bz B0 B3 B4 B5 B6 B7 B8 B9 BA BB BC BD BE BF BG BH BI BJ BK BM BN BO BP BQ BR BS BT BU BV BW BX BY BZ Ca Cb Cc Cd Ce Cf Cg Ch Ci Cj Ck Cl Cm Co Cp Cq Cr Cs Ct Cu Cv Cw Cx Cy Cz C0 C1 C2 C3 C4 C5 C6 C7 C8 C9 CA CB CC CD CE CF CG CH CI CJ CK CL CM
section
variable {P:Program}{w0:World}{S0:SB}{N:Nat}{own:Nat->Nat->Nat}{Q:Exit->Tm->List Blk->Prop}{T:Tm}{L:List Blk}
theorem Rel.none_of{E:Env}{w:World}(h:Rel w0 S0 E L w):∀i,L.length<=i->E.loc i=none/\E.tok i=none:=λi a=>⟨h.fresh i a,h.tkfresh i a⟩
theorem St.cut{E0 E:Env}{a:Act}{w:World}{T':Tm}{L':List Blk}{B:Nat}(g:E0.le E)(m:∀i,B<=i->E0.loc i=none/\E0.tok i=none)(h:St w0 S0 N E T L a w)(b:Cut B T' L' T L):∃E',E0.le E'/\St w0 S0 N E' T' L' a w:=by obtain⟨f,X,rfl,d,n⟩:=b;rcases n with rfl|⟨l,k⟩;exact⟨E,g,by simpa using h.1,h.2.1.sub f,h.2.2⟩;refine⟨E.res L'.length id,Zb g m d id (λ_ _=>rfl),h.1.cut k,λt v j=>?_,h.2.2⟩;have:=(h.2.1.sub f) t v j;refine VR.cut (E:=E) (E':=E.res L'.length id) (p:=λi=>decide (i<L'.length)) (λ_ _ _ x=>x) (λi c e b=>?_) (λi c e b=>?_) v _ (l _ (LY j)) this;rw[Env.res_loc (by simpa using e)];exact b;rw[Env.res_tok (by simpa using e)];exact b
def Nxt(B n:Nat)(I:Nat->Tm->List Blk->Prop)(T1:Tm)(L1:List Blk):Prop:=∃m T2 L2,m<n/\Cut B T2 L2 T1 L1/\I m T2 L2
def Mid(B:Nat)(R:Tm->List Blk->Prop)(T1:Tm)(L1:List Blk):Prop:=∃T2 L2,Cut B T2 L2 T1 L1/\R T2 L2
theorem au{B n:Nat}{I:Nat->Tm->List Blk->Prop}{T1:Tm}{L1:List Blk}(m:Nat)(a:Tm)(L2:List Blk)(c:m<n)(b:Cut B a L2 T1 L1)(d:I m a L2):Nxt B n I T1 L1:=⟨m,a,L2,c,b,d⟩
theorem ah6{B:Nat}{T' T:Tm}{L:List Blk}(a:Rk T' T:=by repeat' first|exact GV|refine kF rfl rfl ?_|refine zy rfl rfl ?_|refine kF rfl (congrArg (AV.int _) ah3) ?_|refine kF rfl (by first|(simp_all;done)|(simp_all;omega)|(simp_all;intros;omega)) ?_)(b:B<=L.length:=by simp):Cut B T' L T L:=GZ a b
theorem ah7{B:Nat}{T' T:Tm}{L:List Blk}(a:Rk T' T:=by repeat' first|exact GV|refine kF rfl rfl ?_|refine zy rfl rfl ?_)(b:B<=L.length:=by simp):Cut B T' L T L:=GZ a b
theorem ah8{B n:Nat}{I:Nat->Tm->List Blk->Prop}{T1:Tm}{L1:List Blk}{m:Nat}{a:Tm}{L2:List Blk}(c:m<n)(b:Cut B a L2 T1 L1)(d:I m a L2):Nxt B n I T1 L1:=⟨m,a,L2,c,b,d⟩
theorem zC{B:Nat}{R:Tm->List Blk->Prop}{T1:Tm}{L1:List Blk}(a:Tm)(L2:List Blk)(c:Cut B a L2 T1 L1)(b:R a L2):Mid B R T1 L1:=⟨a,L2,c,b⟩
theorem ao{x:aT}(I:Nat->Tm->List Blk->Prop){n0:Nat}{T0:Tm}{L0:List Blk}(p:Cut L.length T0 L0 T L)(Y:I n0 T0 L0)(round:∀n T' L',I n T' L'->AW P N own x (UM (Nxt L.length n I) Q) T' L'):AW P N own (.loop x) Q T L:=λc R r hr w0 S0 E a w g=>by
 classical
 obtain⟨c1,rfl,q⟩:=ZJ R;have D:=g.1.none_of
 let J:Act->World->Nat->Prop:=λa w n=>∃l j E' T' L',Bs w0 S0 l j/\E.le E'/\I n T' L'/\St l j N E' T' L' a w
 have d:∀a w,∃m,(∃n,J a w n)->J a w m/\∀k,J a w k->m<=k:=λa w=>by by_cases h:∃n,J a w n;obtain⟨n,S⟩:=h;obtain⟨m,q,V⟩:=SF (J a w) n S;exact⟨m,λ_=>⟨q,V⟩⟩;simp[*]
 let μ:Act->World->Nat:=λa w=>Classical.choose (d a w)
 have z:∀a w,(∃n,J a w n)->J a w (μ a w)/\∀k,J a w k->μ a w<=k:=λa w=>Classical.choose_spec (d a w)
 obtain⟨Z,U,X⟩:=g.cut (.refl E) D p;refine wpIn_loop (λa w=>∃n,J a w n) μ ⟨n0,w0,S0,Z,_,_,.refl _ _,U,Y,X⟩ λa w H=>?_
 obtain⟨⟨l,j,E',T',L',b,g1,K,g3⟩,_⟩:=z a w H;refine wpIn_mono (round _ T' L' K c1 q r (λe=>hr (by simp[aT.hasRF,e])) l j E' a w g3) λe u w' ⟨v,C,t,s,o,B,A,y,F⟩=>?_
 cases e;obtain⟨m,W,L2,hm,i,O⟩:=y;obtain⟨E3,M,G⟩:=F.cut (g1.trans A) D i;have f:J u w' m:=⟨v,C,E3,W,L2,b.trans B,M,O,G⟩;exact⟨⟨m,f⟩,Nat.lt_of_le_of_lt ((z u w' ⟨m,f⟩).2 m f) hm⟩
 all_goals exact⟨v,C,t,s,o,b.trans B,g1.trans A,y,F⟩
theorem Pp{x y:aT}(R:Tm->List Blk->Prop)(h:AW P N own x (UM (Mid L.length R) Q) T L)(p:∀i L2,R i L2->L.length<=L2.length->AW P N own y Q i L2):AW P N own (.seq x y) Q T L:=λc v r hr w0 S0 E a w f=>by
 obtain⟨F,q,rfl,u,C⟩:=WN v;refine wpIn_seq (wpIn_mono (h F u r (λe=>hr (by simp[aT.hasRF,e])) w0 S0 E a w f) λe n w' ⟨m,l,E',T',L',b,g1,k,g3⟩=>?_);cases e;obtain⟨i,L2,g,j⟩:=k;obtain⟨I,t,o⟩:=g3.cut g1 f.1.none_of g;obtain⟨_,X,_,d,_⟩:=g;exact wpIn_mono (p i L2 j d q C r (λe=>hr (by simp[aT.hasRF,e])) m l I n w' o) λe A G ⟨D,z,H,s,J,B,g,j,K⟩=>⟨D,z,H,s,J,b.trans B,t.trans g,j,K⟩
 all_goals exact⟨m,l,E',T',L',b,g1,k,g3⟩
theorem TR.cons{E:Env}{a:Act}{t:Nat}{v:AV}(r:TR E T a)(c:VR E v (a.tmps.getD t undef)):TR E ((t,v)::T) a:=λt' b h=>by simp only[ar]at h;split at h;simp_all;exact r t' b h
theorem cG{lc:aT}(t sz:Nat){l:List AV}{n:Nat}(o:ar T t=some (.sl l n (some n)))(x:l.length=n*sz)(h:AW P N own lc Q ((t,.gsl l n L.length sz)::T) (L++[.spare n sz])):AW P N own lc Q T L:=λc y r hr w0 S0 E a w d=>by
 obtain⟨g,v⟩:=d.1.addtok (n:=n) (sz:=sz) (lc:=none) Nm;have u:=d.2.1 t _ o;have z:=d.2.1.mono g;refine wpIn_mono (h c y r hr w0 S0 _ a w ⟨v,z.cons ?_,d.2.2⟩) λe D w' ⟨B,A,E',T1,L1,b,s,j,C⟩=>⟨B,A,E',T1,L1,b,g.trans s,j,C⟩
 have f:=VR.mono g _ _ u;obtain⟨p,c',m,i,k,q⟩:=f;exact⟨p,c',m,i,x,q,⟨n,sz,none⟩,ah4,ae0 _,λ_=>⟨rfl,λ_=>k n rfl,ah4⟩⟩
theorem iM{x:Opd}{y z:aT}{p:Prop}[Decidable p](a:evX T x=some (.bool (decide p)))(b:p->AW P N own y Q T L)(c:¬p->AW P N own z Q T L):AW P N own (.cond x y z) Q T L :=
 eZ a (λe=>b (of_decide_eq_true e)) (λe=>c (of_decide_eq_false e))
theorem iL{x:Opd}{y z:aT}{p:Prop}[Decidable p](a:evX T x=some (.bool (!decide p)))(b:¬p->AW P N own y Q T L)(c:p->AW P N own z Q T L):AW P N own (.cond x y z) Q T L :=
 eZ a (λe=>b (of_decide_eq_false (by simpa using e))) (λe=>c (of_decide_eq_true (by simpa using e)))
end
section
variable {P:Program}{K:Tm->Prop}{L L1:List Blk}{Ls:List (List Blk)}{p:AV}{d:Option Nat}{op:LOp}{rest:List aj}{T:Tm}{t:Nat}{b:Bool}{al:Option Nat}{n:Nat}
def aaE(L:List Blk)(k:AV->Prop):Option (Prop×AV×List Blk)->Prop
 |some (c,av,L')=>c/\L'=L/\k av
 |none=>False
theorem Yu{k:AV->Prop}{c:Prop}{av:AV}{L':List Blk}:aaE L k (some (c,av,L'))=(c/\L'=L/\k av):=rfl
def V3(L L1:List Blk)(k:AV->Prop):Option (Prop×AV×List Blk)->Option (Prop×AV×List Blk)->Prop
 |some (c,av,L'),some (c2,av2,L2)=>c/\L'=L/\c2/\av2=av/\L2=L1/\k av
 |_,_=>False
theorem Yt{k:AV->Prop}{c b:Prop}{av a:AV}{L' L2:List Blk}:V3 L L1 k (some (c,av,L')) (some (b,a,L2))=(c/\L'=L/\b/\a=av/\L2=L1/\k av):=rfl
def ad3(P:Program)(f:FuncId)(L:List Blk)(k:AV->Prop):Option (List AV)->Prop
 |some args=>∃v,ac P f args L (λav L'=>av=v/\L'=L)/\k v
 |none=>False
def acz(P:Program)(f:FuncId)(L L1:List Blk)(k:AV->Prop):Option (List AV)->Prop
 |some args=>∃v,ac P f args L (λav L'=>av=v/\L'=L)/\ac P f args L1 (λav L'=>av=v/\L'=L1)/\k v
 |none=>False
def UQ(b:Bool)(y n:Prop):Option AV->Prop
 |some (.bool x)=>if x=b then y else n
 |some (.tup [])=>n
 |_=>False
theorem Yw{b x:Bool}{y n:Prop}:UQ b y n (some (.bool x))=if x=b then y else n:=rfl
theorem aaJ{b:Bool}{y n:Prop}:UQ b y n (some (.tup []))=n:=rfl
def acU(P:Program)(f:FuncId)(args:List AV)(L L1:List Blk)(k:AV->Prop):Prop:=∃v,ac P f args L (λav L'=>av=v/\L'=L)/\ac P f args L1 (λav L'=>av=v/\L'=L1)/\k v
theorem dD{f:FuncId}{args:List AV}{k:AV->Prop}{v:AV}(h:ac P f args L (λav L'=>av=v/\L'=L))(b:ac P f args L1 (λav L'=>av=v/\L'=L1))(a:k v):acU P f args L L1 k:=⟨v,h,b,a⟩
theorem ad2{f:FuncId}{k:AV->Prop}{args:List AV}:ad3 P f L k (some args)=aaN P f args L k:=rfl
theorem ad1{f:FuncId}{k:AV->Prop}{args:List AV}:acz P f L L1 k (some args)=acU P f args L L1 k:=rfl
theorem aaQ{o:aj}{v:AV}(h:o.op.isCall=false):AQv P o T L v=(match ak T L o.op with|some (c,av,L')=>c/\av=v/\L'=L|none=>False):=by obtain⟨d,op,g⟩:=o;cases op<;>simp only[LOp.isCall,agC]at h<;>rfl
def Rl(P:Program)(L:List Blk)(k:AV->Prop)(T:Tm)(op:LOp):Prop :=
 match op with
 |.call f xs=>ad3 P f L k (iR T xs)
 |.callv f xs=>∃v,AQv P ⟨none,.callv f xs,none⟩ T L v/\k v
 |lo=>aaE L k (ak T L lo)
def aaB(P:Program)(L L1:List Blk)(k:AV->Prop)(T:Tm)(op:LOp):Prop :=
 match op with
 |.call f xs=>acz P f L L1 k (iR T xs)
 |.callv f xs=>∃v,(AQv P ⟨none,.callv f xs,none⟩ T L v/\AQv P ⟨none,.callv f xs,none⟩ T L1 v)/\k v
 |lo=>V3 L L1 k (ak T L lo) (ak T L1 lo)
def AGK(P:Program)(K:Tm->List Blk->Prop)(Ls:List (List Blk))(H:List oi)(rest:List (aj×Kd))(d:Option Nat)(T:Tm)(av:AV):Prop:=AG P K rest Ls H (bC d av T)
def AGR(P:Program)(K:Tm->List Blk->Prop)(Ls:List (List Blk))(H:List oi)(rest:List (aj×Kd))(f:Nat)(o:aj)(T:Tm)(av:AV):Prop:=AG P K rest Ls (Vs f o T av H) (bC o.dst av T)
def AGE(P:Program)(K:Tm->List Blk->Prop)(Ls:List (List Blk))(H:List oi)(rest:List (aj×Kd))(d:Option Nat)(T:Tm)(av:AV)(L2:List Blk):Prop:=Ea P L2 H/\AG P K rest (L2::Ls) (JG H) (bC d av T)
def aaD(k:AV->List Blk->Prop):Option (Prop×AV×List Blk)->Prop
 |some (c,av,L2)=>c/\k av L2
 |none=>False
theorem Ys{k:AV->List Blk->Prop}{c:Prop}{av:AV}{L2:List Blk}:aaD k (some (c,av,L2))=(c/\k av L2):=rfl
def IsV(v av:AV):Prop:=av=v
theorem adw{o:aj}{T:Tm}{v:AV}{H:List oi}:Vs 0 o T v H=H:=rfl
theorem adv{f:Nat}{o:aj}{T:Tm}{v:AV}{H:List oi}:Vs (f+1) o T v H=(f+1,o,T,v)::H:=rfl
theorem aad:JG []=[]:=rfl
theorem aac{y:aj×Tm×AV}{H:List oi}:JG ((1,y)::H)=JG H:=rfl
theorem adF{y:aj×Tm×AV}{H:List oi}:JG ((n+2,y)::H)=(n+1,y)::JG H:=rfl
theorem Hd{k:AV->Prop}:(∃v,AQ P ⟨d,op,none⟩ T L v/\k v)=Rl P L k T op:=by
 by_cases h:op.isCall=false;have e:Rl P L k T op=aaE L k (ak T L op):=by cases op<;>simp only[LOp.isCall,agC]at h<;>rfl
 rw[e];simp only[AQ,aaQ (o:=⟨d,op,none⟩) h];rcases ak T L op with _|⟨c,av,L'⟩;simp[aaE];simp only[aaE,eq_iff_iff]
 grind
 cases op<;>simp only[LOp.isCall,not_true_eq_false]at h;rename_i f xs;simp only[AQ,AQv,Rl];rcases iR T xs with _|args;simp[ad3];rfl;rfl
theorem acD{k:AV->Prop}:(∃v,(AQ P ⟨d,op,none⟩ T L v/\AQ P ⟨d,op,none⟩ T L1 v)/\k v)=aaB P L L1 k T op:=by
 by_cases h:op.isCall=false;have e:aaB P L L1 k T op=V3 L L1 k (ak T L op) (ak T L1 op):=by cases op<;>simp only[LOp.isCall,agC]at h<;>rfl
 rw[e];simp only[AQ,aaQ (o:=⟨d,op,none⟩) h];rcases ak T L op with _|⟨c,av,L'⟩<;>rcases ak T L1 op with _|⟨b,a,L2⟩;simp[V3];simp[V3];simp[V3];simp only[V3,eq_iff_iff]
 grind
 cases op<;>simp only[LOp.isCall,not_true_eq_false]at h;rename_i f xs;simp only[AQ,AQv,aaB];rcases iR T xs with _|args;simp[acz];simp only[acz,and_assoc];rfl
theorem V7{k:AV->Prop}{g:aj->AV->Prop}(a:∀v,g ⟨d,op,some (t,b)⟩ v=match ar T t with|some (.bool x)=>if x=b then g ⟨d,op,none⟩ v else v=.tup []|some (.tup [])=>v=.tup []|_=>False):
  (∃v,g ⟨d,op,some (t,b)⟩ v/\k v)=UQ b (∃v,g ⟨d,op,none⟩ v/\k v) (k (.tup [])) (ar T t):=by
 simp only[a];rcases ar T t with _|x;simp[UQ];cases x<;>simp only[UQ,false_and,exists_false]
 grind
 grind
theorem ad5{K:Tm->List Blk->Prop}{H:List oi}:AG P K [] (L::Ls) H T=K T L:=rfl
theorem acF{K:Tm->List Blk->Prop}{H:List oi}{r:List (aj×Kd)}:AG P K ((⟨d,op,none⟩,.pure)::r) (L::Ls) H T=Rl P L (AGK P K (L::Ls) H r d T) T op:=Hd
theorem aaV{K:Tm->List Blk->Prop}{H:List oi}{r:List (aj×Kd)}:AG P K ((⟨d,op,some (t,b)⟩,.pure)::r) (L::Ls) H T=UQ b (Rl P L (AGK P K (L::Ls) H r d T) T op) (AGK P K (L::Ls) H r d T (.tup [])) (ar T t):=by rw[<- Hd (d:=d)];exact V7 (g:=λo v=>AQ P o T L v) λv=>rfl
theorem aaU{K:Tm->List Blk->Prop}{H:List oi}{r:List (aj×Kd)}{f:Nat}:AG P K ((⟨d,op,none⟩,.read 0 f)::r) (L::Ls) H T=Rl P L (AGR P K (L::Ls) H r f ⟨d,op,none⟩ T) T op:=by rw[<- Hd (d:=d)];simp only[AG,ag1,agF,afl,forall_eq,AGR]
theorem YA{K:Tm->List Blk->Prop}{H:List oi}{r:List (aj×Kd)}{f:Nat}:AG P K ((⟨d,op,some (t,b)⟩,.read 0 f)::r) (L::Ls) H T=UQ b (Rl P L (AGR P K (L::Ls) H r f ⟨d,op,some (t,b)⟩ T) T op) (AGR P K (L::Ls) H r f ⟨d,op,some (t,b)⟩ T (.tup [])) (ar T t):=by rw[<- Hd (d:=d)];simp only[AG,ag1,agF,afl,forall_eq];exact V7 (g:=λo v=>AQ P o T L v) (k:=AGR P K (L::Ls) H r f ⟨d,op,some (t,b)⟩ T) λv=>rfl
theorem aaT{K:Tm->List Blk->Prop}{H:List oi}{r:List (aj×Kd)}{f:Nat}:AG P K ((⟨d,op,none⟩,.read 1 f)::r) (L::L1::Ls) H T=aaB P L L1 (AGR P K (L::L1::Ls) H r f ⟨d,op,none⟩ T) T op:=by rw[<- acD (d:=d)];simp only[AG,ag1,agF,afp,af6,or_false,forall_eq_or_imp,forall_eq,AGR]
def aeB(P:Program)(L:List Blk)(k:AV->List Blk->Prop)(T:Tm)(op:LOp):Prop :=
 match op with
 |.call f xs=>∃v L2,EQv P ⟨none,.call f xs,none⟩ T L v L2/\k v L2
 |.callv f xs=>∃v L2,EQv P ⟨none,.callv f xs,none⟩ T L v L2/\k v L2
 |lo=>aaD k (ak T L lo)
theorem ad6{K:Tm->List Blk->Prop}{H:List oi}{r:List (aj×Kd)}:AG P K ((⟨d,op,none⟩,.eff)::r) (L::Ls) H T=aeB P L (AGE P K (L::Ls) H r d T) T op:=by
 simp only[AG,EQ];have key:∀lo:LOp,lo.isCall=false->(∃v L2,EQv P ⟨d,lo,none⟩ T L v L2/\AGE P K (L::Ls) H r d T v L2)=aaD (AGE P K (L::Ls) H r d T) (ak T L lo):=λlo hlo=>by
  have e:∀v L2,EQv P ⟨d,lo,none⟩ T L v L2=(match ak T L lo with|some (c,av,L')=>c/\av=v/\L'=L2|none=>False):=λv L2=>by cases lo<;>simp only[LOp.isCall,agC]at hlo<;>rfl
  simp only[e];rcases ak T L lo with _|⟨c,av,L'⟩;simp[aaD];simp only[aaD,eq_iff_iff]
  grind
 have key2:(∃v L2,EQv P ⟨d,op,none⟩ T L v L2/\Ea P L2 H/\AG P K r (L2::L::Ls) (JG H) (bC d v T))=(∃v L2,EQv P ⟨d,op,none⟩ T L v L2/\AGE P K (L::Ls) H r d T v L2):=rfl;cases op
 case call=>rfl
 case callv=>rfl
 all_goals exact key _ rfl
theorem Yv:Ea P L []=True:=rfl
theorem V4{f:Nat}{v:AV}{H:List oi}:Ea P L ((f,⟨d,op,none⟩,T,v)::H)=(Rl P L (IsV v) T op/\Ea P L H):=by rw[<- Hd (d:=d)];simp[Ea,IsV]
theorem UL{f:Nat}{v:AV}{H:List oi}:Ea P L ((f,⟨d,op,some (t,b)⟩,T,v)::H)=(UQ b (Rl P L (IsV v) T op) (IsV v (.tup [])) (ar T t)/\Ea P L H):=by rw[<- Hd (d:=d),<- V7 (g:=λo v=>AQ P o T L v) (k:=IsV v) (d:=d) (op:=op) (t:=t) (b:=b) (T:=T) λv=>rfl];simp[Ea,IsV]
theorem jQ{N:Nat}{own:Nat->Nat->Nat}{Q:Exit->Tm->List Blk->Prop}{qk:List (aj×Kd)}{ts:List aj}(h:AG P (mN P (Q .normal) ts) qk [L] [] T):AW P N own (.dregion qk ts) Q T L:=Q3 h
end
theorem X6(xs:List Int):AV.frzL (xs.map (AV.int .i64))=xs.map (AV.int .i64):=by rw[AV.frzL_eq,afj];rfl
theorem Zt(xs:List Int):(xs.map (AV.int .i64)).all AV.one=true:=by rw[List.all_map];simp[AV.one]
theorem acZ:IntKind.i64.wrap 0=0:=by decide
theorem acY:IntKind.i64.wrap 1=1:=by decide
theorem acX:IntKind.i64.wrap 2=2:=by decide
theorem aaY:IntKind.i64.wrap (-1)=-1:=by decide
structure Nx(p:Prop):Prop where
 o:p
structure NxI(c p:Prop):Prop where
 o:c->p
theorem oA{c p:Prop}(h:c->p):NxI c p:=⟨h⟩
theorem Eb{p:Prop}(h:p):Nx p:=⟨h⟩
section
variable {P:Program}{L:List Blk}{body:List SOp}{d:Nat}{x:Opd}{k:Tm->Prop}{T:Tm}{c:Prop}[Decidable c]{p q:Bool}
theorem oC(h:NxI (c) (GL P L body (IsX x q) T))(a:Nx (k ((d,.bool (decide c&&q))::T))):GQ P L true body d x k T (decide c):=⟨q,λe=>h.o (of_decide_eq_true e),a.o⟩
theorem jL(h:NxI (¬c) (GL P L body (IsX x q) T))(a:Nx (k ((d,.bool (!decide c&&q))::T))):GQ P L true body d x k T (!decide c):=⟨q,λe=>h.o (by simpa using e),a.o⟩
theorem oD(h:NxI (¬c) (GL P L body (IsX x q) T))(a:Nx (k ((d,.bool (decide c ||q))::T))):GQ P L false body d x k T (decide c):=⟨q,λe=>h.o (of_decide_eq_false e),a.o⟩
theorem jM(h:NxI (c) (GL P L body (IsX x q) T))(a:Nx (k ((d,.bool (!decide c ||q))::T))):GQ P L false body d x k T (!decide c):=⟨q,λe=>h.o (by simpa using e),a.o⟩
theorem oE(h:NxI (p=true) (GL P L body (IsX x q) T))(a:Nx (k ((d,.bool (p&&q))::T))):GQ P L true body d x k T p:=⟨q,h.o,a.o⟩
theorem jN(h:NxI (p=false) (GL P L body (IsX x q) T))(a:Nx (k ((d,.bool (p ||q))::T))):GQ P L false body d x k T p:=⟨q,h.o,a.o⟩
variable {a b:Prop}[Decidable a][Decidable b]
theorem adQ:(decide a&&decide b)=decide (a/\b):=(ahx a b).symm
theorem adO:(!decide a&&decide b)=decide (¬a/\b):=by simp[ahx]
theorem adP:(decide a && !decide b)=decide (a/\¬b):=by simp[ahx]
theorem adN:(!decide a && !decide b)=decide (¬a/\¬b):=by simp[ahx]
theorem aeh:(decide a ||decide b)=decide (a\/b):=(ahy a b).symm
theorem aef:(!decide a ||decide b)=decide (¬a\/b):=by simp[ahy]
theorem aeg:(decide a || !decide b)=decide (a\/¬b):=by simp[ahy]
theorem aee:(!decide a || !decide b)=decide (¬a\/¬b):=by simp[ahy]
end
attribute [push_cast] acu evD deg afi adY aeG adZ acx aeF aeE aeA adU aez adT adV Wp acK acL aaK aeH W5 aeD GOp IsX adQ adO adP adN aeh aef aeg aee afU agL agH ahz Bool.true_or Bool.or_true ag0 Bool.or_false ahf ahs
attribute [push_cast] acZ acY acX aaY AGK AGR AGE IsV Ys adw adv aad aac adF ad5 acF aaV aaU YA aaT ad6 aeB Yv V4 UL Yu Yt ad2 ad1 Yw aaJ Rl aaB eq_self V6 Sg aaR Yz V8 yT S9 aaC aaM Yx AOp ak evX iR ar bC bin ach acg un eqA row lv AV.cells? bnd UM V5 am OO Sg elems app QT di AV.frz AV.frzL X6 Zt agw Option.bind_none afi afx agj Option.getD_none if_true if_false true_and and_true afg afF afc ae6 afW ahe SC zg abq abp acs afI afH afq agk agm Nat.mul_one Nat.one_mul afD Nat.mul_zero List.getD_cons_zero List.getD_cons_succ ahf ahs decide_true decide_false forall_const not_true_eq_false not_false_eq_true ne_eq afm agC ahi ahj ag1 agF bS List.set_cons_zero List.set_cons_succ af2 agO AV.one Bool.and_self agL afU false_implies implies_true decide_eq_true_eq decide_eq_false_iff_not ag2 Int.toNat_zero Int.toNat_natCast afA Bool.not_not Bool.not_eq_false
theorem Rel.frzB{w0:World}{S0:SB}{E:Env}{L:List Blk}{w:World}(h:Rel w0 S0 E L w){i:Nat}{c:List AV}(s:L[i]?=some (.cells c)):Rel w0 S0 E (L.set i (.cells (AV.frzL c))) w:=by
 have l:i<L.length:=(aeY.1 s).1;have m:∀(j:Nat) (k:Blk),(L.set i (.cells (AV.frzL c)))[j]?=some k->k.live=true->∃k',L[j]?=some k'/\k'.live=true:=λj k f q=>by rw[afC]at f;split at f;rename_i e;subst e;exact⟨_,s,rfl⟩;exact⟨k,f,q⟩
 have g:∀(j n sz:Nat),(L.set i (.cells (AV.frzL c)))[j]?=some (.spare n sz)->L[j]?=some (.spare n sz):=λj n sz f=>by rw[afC]at f;split at f;cases f;exact f
 refine⟨h.mem,λj k f=>?_,λi l=>h.fresh i (by simpa using l),λi k c f q I=>?_,λi j k k' c c' l M z N=>?_,
  λi l=>h.tkfresh i (by simpa using l),λi n sz t d l=>h.tkown i n sz t d (g i n sz l),λi n sz t d j k' c' l y hd z q=>?_,
  λi n sz t d C B r t' F l y hd u=>h.tkinj i n sz t d C B r t' F (g i n sz l) y hd (g C B r u),h.frame,h.size,h.os,h.tape,h.output,h.glob,h.gsz⟩
 rw[afC]at f;split at f;rename_i e;subst e;cases f;obtain⟨cl,cs,ty,fr,g1,H,g3,g4,J,D⟩:=h.blk _ _ s;refine⟨cl,cs,ty,fr,g1,H,g3,by rw[AV.frzL_eq];simpa using g4,λj a A=>?_,D⟩;rw[AV.frzL_eq,afS,afr]at A;obtain⟨b,K,rfl⟩:=A;obtain⟨v,o,p⟩:=J j b K;exact⟨v,o,VR.frz _ _ p⟩;exact h.blk j k f;obtain⟨k',o,p⟩:=m i k f q;exact h.own i k' c o p I;obtain⟨x,o,p⟩:=m i k l M;obtain⟨G,O,h4⟩:=m j k' z N;exact h.inj i j x G c c' o p O h4;obtain⟨x,o,p⟩:=m j k' z q;exact h.tkloc i n sz t d j x c' (g i n sz l) y hd o p
theorem acC{P:Program}{N:Nat}{own:Nat->Nat->Nat}{Q:Exit->Tm->List Blk->Prop}{T:Tm}{L:List Blk}{lc:aT}(i:Nat){c:List AV}(d:L[i]?=some (.cells c))(h:AW P N own lc Q T (L.set i (.cells (AV.frzL c)))):AW P N own lc Q T L:=λe f r hr w0 S0 E a w b =>
 h e f r hr w0 S0 E a w ⟨b.1.frzB d,b.2⟩
theorem cL{P:Program}{f:FuncId}{args:List AV}{L:List Blk}{K:AV->List Blk->Prop}(h:ac P f (AV.frzL args) L K):ac P f args L K:=λw0 S0 E w vs a b =>
 h w0 S0 E w vs a (VRL.frz _ _ b)
end Go.Proofs.YtajkbcmleihaoaaGreatDoor.Av
