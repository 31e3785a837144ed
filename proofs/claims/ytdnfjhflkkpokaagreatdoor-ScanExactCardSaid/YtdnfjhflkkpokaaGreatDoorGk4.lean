/- Joined texts of the walk, made small by a program. -/
import Derived.Test.YtdnfjhflkkpokaaGreatDoorGk3
import Derived.Scope
import Derived.Test.YtdnfjhflkkpokaaGreatDoorProg
set_option linter.unusedSimpArgs false
set_option linter.unusedVariables false
namespace Go.Proofs.YtdnfjhflkkpokaaGreatDoor.Av
open Go
variable {T':Tm}{L2 L':List Blk}{v:AV}{α:Type}{B:Nat}
def EQv(P:Program)(o:aw)(T:Tm)(L:List Blk)(v:AV)(L2:List Blk):Prop :=
 match o.op with
 | .call f xs=>match jc T xs with
   |some args=>af P f args L λav L'=>av=v/\L'=L2
   |none=>False
 | .callv f xs=>match evX T f,jc T xs with
   |some (.func g caps),some args=>af P g (args++caps) L λav L'=>av=v/\L'=L2
   |_,_=>False
 | lo=>match au T L lo with
   |some (c,av,L')=>c/\av=v/\L'=L2
   |none=>False
def EQ(P:Program)(o:aw)(T:Tm)(L:List Blk)(v:AV)(L2:List Blk):Prop :=
 match o.guard with
 |none=>EQv P o T L v L2
 | some (t,b)=>match ay T t with
   |some (.bool x)=>if x=b then EQv P o T L v L2 else v=.tup []/\L2=L
   |some (.tup [])=>v=.tup []/\L2=L
   |_=>False
theorem EQv.congr{P:Program}{o:aw}{T:Tm}{L:List Blk}(a:∀t∈o.op.tmps,ay T t=ay T' t)(b:EQv P o T L v L2):EQv P o T' L v L2:=by unfold EQv at b⊢;split at b;rename_i f xs e;rw[e]at a;rw[<- jI (l:=xs) a];exact b;rename_i f xs e;rw[e]at a;simp only[LOp.tmps,ao5]at a;rw[<- jI (l:=xs) (λt c=>a t (.inr c)),<- aF (x:=f) (λt c=>a t (.inl c))];exact b;rw[<- VK a];exact b
theorem EQ.congr{P:Program}{o:aw}{T:Tm}{L:List Blk}(h:∀t∈o.reads,ay T t=ay T' t)(a:EQ P o T L v L2):EQ P o T' L v L2:=by
 have c:∀t∈o.op.tmps,ay T t=ay T' t:=λt d=>h t (by simp[aw.reads,d])
 unfold EQ at a⊢;split at a;exact a.congr c;rename_i t b f;rw[<- h t (by simp[aw.reads,f])];split at a;split at a;rename_i e;rw[if_pos e];exact a.congr c;simp[*];omega;omega
theorem EQv.aop{P:Program}{o:aw}{T:Tm}{L:List Blk}(a:EQv P o T L v L2):AOp P o (λT' L'=>T'=di o.dst v T/\L'=L2) T L:=by
 unfold EQv at a;unfold AOp;split at a;rename_i f xs e;simp only[e];split at a;rename_i args h;rw[h];exact af.mono a λav L' ⟨d,b⟩=>⟨by rw[d],b⟩
 simp_all;rename_i f xs e;simp only[e];split at a;rename_i g caps args l h;rw[l,h];exact af.mono a λav L' ⟨d,b⟩=>⟨by rw[d],b⟩
 simp_all;rename_i m d b;split at a;rename_i c av L' k;have i:Res (λT' L'=>T'=di o.dst v T/\L'=L2) o.dst T (au T L o.op):=by rw[k];obtain⟨j,rfl,rfl⟩:=a;exact⟨j,rfl,rfl⟩
 simp_all;simp_all
theorem EQ.aops{P:Program}{o:aw}{T:Tm}{L:List Blk}(a:EQ P o T L v L2):nj P (λT' L'=>T'=di o.dst v T/\L'=L2) [o] T L:=by unfold EQ at a;simp only[nj];split at a;rename_i d;simp only[d];exact a.aop;rename_i t b d;simp only[d];split at a;rename_i x c;rw[c,EB];split at a;rename_i e;rw[if_pos e];exact a.aop;simp[*];rename_i c;rw[c,acE];exact⟨by rw[a.1],a.2.symm⟩;simp_all
def done(es:List Nat)(listed:Array Bool):Nat:=es.countP λe=>listed.getD e false
theorem XK:∀(es:List Nat) (f:Nat->Bool) (m:Nat),(∀(j e:Nat),es[j]?=some e->f e=decide (j<m))->m<=es.length->es.countP f=m
 |[],f,m,_,hm=>by simp at hm;simp[hm]
 | e::es,f,0,h,_=>by
   refine asb.2 λx a=>?_
   obtain⟨j,b,rfl⟩:=apV.1 a;have:=h j _ (ao8 b);simp[*]
 |e::es,f,m+1,h,hm=>by rw[List.countP_cons_of_pos (by have:=h 0 e rfl;simpa using this)];rw[XK es f m (λj x a=>by have:=h (j+1) x (by simpa using a);rw[this];congr 1;simp) (by simpa using hm)]
theorem XA:∀(es:List Nat) (f:Nat->Bool),(∀(j d e i:Nat),es[j]?=some e->es[d]?=some i->j<d->f i=true->f e=true)->∀(j e:Nat),es[j]?=some e->f e=decide (j<es.countP f)
 |[],f,_,j,e,h=>by simp at h
 | x::es,f,hp,j,e,h=>by
   have o:=XA es f λa b y z m l p=>hp (a+1) (b+1) y z (by simpa using m) (by simpa using l) aso
   by_cases g:f x=true
   .grind
   .have all:∀y∈es,f y=false:=λy c=>by
     obtain⟨k,n,rfl⟩:=apV.1 c;rcases hf:f es[k]with _|_
     .rfl
     .exact absurd (hp 0 (k+1) x es[k] rfl asp aso hf) g
    rw[List.countP_cons_of_neg g,asb.2 (λy c=>by simp[all y c])]
    grind
section
variable {P:Program}{r:Option Nat}{w0:World}{S0:SB}{N:Nat}{own:Nat->Nat}{ops:Array Oper}{L:List Blk}
theorem afv{O:List aw}{n:Nat}(a5:cQ P N own ops (List.range ops.size)=some O)(bl:NF ops O n=true){qs ts:List aw}(u:O=qs++ts)(hn:qs.length=n){es:List Nat}{Ms:Nat->List Blk}(bi:∀e∈es,e<qs.length)(a2:∀(j j' e e':Nat),es[j]?=some e->es[j']?=some e'->j<j'->((ph ops.toList []).getD e' 0).testBit e=true){K:Tm->List Blk->Prop}{T:Tm}{Q:Exit->Act->World->Prop}{E0:Env}{tr:List AV}(av:tr.length=qs.length)(hq:∀(i:Nat) (o:aw) (v:AV),qs[i]?=some o->tr[i]?=some v->(∃m,es[m]?=some i/\EQ P o (TL T qs tr 0 λj=>decide (j<i)) (Ms m) v (Ms (m+1))) \/
   (i∉es/\∀m,m<=es.length->(∀(j e:Nat),es[j]?=some e->j<m->((ph ops.toList []).getD e 0).testBit i=false)->(∀(j e:Nat),es[j]?=some e->m<=j->((ph ops.toList []).getD i 0).testBit e=false)->AQ P o (TL T qs tr 0 λj=>decide (j<i)) (Ms m) v))(hK:nj P K ts (TL T qs tr 0 λ_=>true) (Ms es.length))(hQ:∀E' T' L' a' w',E0.le E'->K T' L'->St w0 S0 N E' T' L' a' w'->Q .normal a' w'):
  ∀(g:Nat) (b:Array Bool) (a:Act) (w:World) (E:Env),b.size=ops.size->b.toList.count false=g->WQ ops b->E0.le E ->
   (∀i,qs.length<=i->b.getD i false=false)->St w0 S0 N E (TL T qs tr 0 λj=>b.getD j false) (Ms (done es b)) a w->wpAnyIn (gT r) 0 P .any ops Q g b a w:=by
 simp only[NF,ao3]at bl;generalize htbl:ph ops.toList []=tbl at bl a2 hq;obtain⟨⟨⟨⟨a_,a8⟩,c⟩,f⟩,R⟩:=bl;have a6:=EL a5;have bo:O.length=ops.size:=by simpa using a6.1
 have b0:∀i,i<ops.size->∃lo,O[i]?=some lo/\nr P N own ops i=some lo:=λi hi=>a6.2 i i (by simp[hi])
 have hD:aep qs:=by
  have:=ZH a_;rw[u]at this;have sub:∀(qs ts:List aw),aep (qs++ts)->aep qs:=by
   intro qs;induction qs with
   |nil=>intro _ _;trivial
   |cons q qs ih=>intro ts h;exact⟨λp M=>h.1 p (by simp[M]),ih ts h.2⟩
  grind
 have Y:qs.length+ts.length=ops.size:=by rw[<- bo,u];simp
 have F:∀b:Array Bool,b.size=ops.size->Region.ready .any ops b=[]->∀i,i<ops.size->b.getD i false=true:=by
  intro b y hr i;induction i using Nat.strongRecOn with
  | _ i ih =>
    intro hi;rcases hb:b.getD i false with _|_
    .exfalso;have:i∈Region.ready .any ops b:=by
      refine mem_ready.2 ⟨?_,ops[i],apW hi,λe G bx=>?_⟩
      .have A:i<b.size:=aso;simp[aqv,A]at hb⊢;exact hb
      .have:=apa.1 c (ops[i],i) (by rw[ari];simp[hi])
       have:=apa.1 this e (by simpa using G);simp only[bx,aqO,aqg,decide_eq_true_eq]at this;exact ih e.on this aso
     rw[hr]at this;cases this
    .rfl
 have al:∀(b:Array Bool) (i:Nat),b.size=ops.size->i<ops.size->b.getD i true=b.getD i false:=λb i d W=>by have:i<b.size:=aso;simp[aqv,this]
 have S:∀(b:Array Bool) (a:Act) (w:World) (E:Env) (g:Nat),b.size=ops.size->b.toList.count false=g->WQ ops b->E0.le E->(∀i,qs.length<=i->b.getD i false=false)->St w0 S0 N E (TL T qs tr 0 λj=>b.getD j false) (Ms (done es b)) a w ->
   (∀i,i<qs.length->b.getD i false=true)->wpAnyIn (gT r) 0 P .any ops Q g b a w:=by
  intro b a w E g y C l hE D I x;have b3:TL T qs tr 0 (λj=>b.getD j false)=TL T qs tr 0 λ_=>true:=acC λj hj=>by simp only[ap9];exact x j hj
  have hL:Ms (done es b)=Ms es.length:=by congr 1;exact List.countP_eq_length.2 λe G=>x e (bi e G)
  rw[b3,hL]at I;have a9:O.drop qs.length=ts:=(by rw[u];simp);have bk:g=ts.length:=by
   rw[<- C,<- Nat.add_left_cancel_iff (n:=qs.length),Y,<- y];have e:b.toList=List.replicate qs.length true++List.replicate (b.size-qs.length) false:=by
    apply aqZ;intro i;rcases apt i qs.length with d|d
    .have:=x i d;have z:i<b.size:=aso;rw[ao4 (by simpa using d)];simp[aqv,z]at this;simp[z,d,this]
    .rw[ape (by simpa using d)];have:=D i d;rcases apt i b.size with W|W
     .simp[aqv,W]at this;simp only[List.length_replicate];rw[List.getElem?_replicate];rw[if_pos aso];simp[W,this]
     .rw[aqM (by simpa using W),aqM (by simp;omega)]
   rw[e];simp[List.count_append,List.count_replicate];omega
  rw[bk];exact aez a5 c f R hQ ts qs.length b _ _ a w E aso Y a9 y (λi hi=>by
   rcases apt i qs.length with d|d
   .rw[x i d];simpa using d
   .rw[D i d];simpa using d) l hE I hK
 intro g;induction g with
 | zero =>
   intro b a w E y C l hE D I;have hr:Region.ready .any ops b=[]:=by
    refine List.eq_nil_iff_forall_not_mem.2 λi hi=>?_
    obtain⟨d,o,ho,_⟩:=mem_ready.1 hi;have A:i<ops.size:=(apP.1 ho).1;have:false∈b.toList:=by have z:i<b.size:=aso;simp[aqv,z]at d;rw[<- d];simp
    rw[List.count_eq_zero]at C;exact C this
   exact S b a w E 0 y C l hE D I λi hi=>F b y hr i aso
 | succ g ih =>
   intro b a w E y C l hE D I;by_cases x:∀i,i<qs.length->b.getD i false=true
   .exact S b a w E _ y C l hE D I x
   refine⟨λhr=>absurd (λi hi=>F b y hr i aso) x,λi hi=>?_⟩;obtain⟨b2,o,ho,a1⟩:=mem_ready.1 hi;have A:i<ops.size:=(apP.1 ho).1;have J:b.getD i false=false:=(by rw[<- al b i y A];exact b2);obtain⟨lo,Z,a4⟩:=b0 i A;have s:∀X,ops[i]?=some X->∀e∈X.after,Region.binds .any e=true->b.getD e.on false=true:=λX B=>by rw[ho]at B;cases B;exact a1
   have H:∀k,(b.setIfInBounds i true).getD k false=if k=i then true else b.getD k false:=λk=>by
    by_cases e:k=i
    .subst e;have:k<b.size:=aso;simp[aqv,this]
    .rw[if_neg e];exact getD_set_ne false (Ne.symm e)
   have ar:(b.setIfInBounds i true).toList.count false=g:=by
    have z:i<b.size:=aso;have:=ahF b.toList i (by simp[aqv,z]at J;simp[z,J])
    rw[Array.toList_setIfInBounds];omega
   have a3:WQ ops (b.setIfInBounds i true):=λk X hk B e G hb=>by
    rw[H]at hk⊢;by_cases U:e.on=i
    .rw[if_pos U]
    .rw[if_neg U];by_cases e2:k=i
     .subst e2;exact s X B e G hb
     .rw[if_neg e2]at hk;exact l k X hk B e G hb
   rcases apt i qs.length with bn|bn
   .
    have a0:qs[i]?=some lo:=by rw[u,ao4 bn]at Z;exact Z
    have bs:i<tr.length:=aso;have ad:∀t∈lo.reads,ay (TL T qs tr 0 λj=>decide (j<i)) t=ay (TL T qs tr 0 λj=>b.getD j false) t:=by
     intro t ht;by_cases hw:∃(j:Nat) (p:aw),qs[j]?=some p/\p.dst=some t
     .obtain⟨j,p,M,V⟩:=hw;have b4:j<qs.length:=(aoZ.1 M).1;rw[acA hD av M V,acA hD av M V];have b1:O[j]?=some p:=(by rw[u,ao4 b4];exact M);have:=apa.1 a8 (lo,i) (by rw[ari];simpa using Z);have:=apa.1 this t ht;have:=apa.1 this (p,j) (by rw[ari];simpa using b1);simp only[V,beq_self_eq_true,aqO,aqg,apN,aqw]at this;rcases this with d|d
      .have U:=act c f _ _ aso d;have e2:=gV c f l i j A s d;simp only[decide_eq_true_eq,if_pos U,if_pos e2]
      .have U:=act c f _ _ aso d;have e2:b.getD j false=false:=by
        rcases hb:b.getD j false with _|_
        .rfl
        .have:=gV c f l j i aso (λX B=>l j X hb B) d;rw[J]at this;cases this
       simp only[decide_eq_true_eq,if_neg (show ¬j<i by omega),e2,apj,if_false]
     .have hno:∀(j:Nat) (p:aw),qs[j]?=some p->p.dst≠some t:=λj p M V=>hw ⟨j,p,M,V⟩
      rw[acB hno,acB hno]
    have an:∀(t:Nat) (v:AV),ay (TL T qs tr 0 λj=>(b.setIfInBounds i true).getD j false) t=some v->ay (di lo.dst tr[i] (TL T qs tr 0 λj=>b.getD j false)) t=some v:=by
     intro t v hv;by_cases hw:∃(j:Nat) (p:aw),qs[j]?=some p/\p.dst=some t
     .obtain⟨j,p,M,V⟩:=hw;rw[acA hD av M V]at hv;by_cases e:j=i
      .subst e;rw[a0]at M;cases M;rw[V,Vy];rw[if_pos (by rw[H,if_pos rfl]),ao8 bs]at hv;exact hv
      .have hne:lo.dst≠some t:=λe'=>e (N4 hD M a0 V e')
       rw[EN hne,acA hD av M V];simp only[H,if_neg e]at hv;exact hv
     .have hno:∀(j:Nat) (p:aw),qs[j]?=some p->p.dst≠some t:=λj p M V=>hw ⟨j,p,M,V⟩
      rw[acB hno]at hv;rw[EN (hno i lo a0),acB hno];exact hv
    have ap:∀k,qs.length<=k->(b.setIfInBounds i true).getD k false=false:=λk hk=>by rw[H,if_neg aso];exact D k hk
    have L:∀j e,es[j]?=some e->b.getD e false=decide (j<done es b):=XA es _ λj j' e e' d W h3 h4=>by have z:e'<ops.size:=(by have:=bi e' (apR W);omega);exact gV c f l e' e z (λX B=>l e' X h4 B) (a2 j j' e e' d W h3)
    have bt:done es b<=es.length:=List.countP_le_length;rcases hq i lo tr[i] a0 (ao8 bs)with⟨m,g1,g2⟩|⟨g1,g2⟩
    .have hm:done es b=m:=by
      have d:=L m i g1;rw[J]at d;have W:¬m<done es b:=(by simpa using d.symm);rcases apt (done es b) m with h3|h3
      .obtain⟨e,G⟩:∃e,es[done es b]?=some e:=⟨_,ao8 (by have:=(aoZ.1 g1).1;omega)⟩;have h4:=L _ e G;rw[gV c f l i e A s (a2 _ _ e i G g1 h3)]at h4;simp at h4
      .omega
     have b5:done es (b.setIfInBounds i true)=m+1:=by
      refine XK es _ (m+1) (λj e G=>?_) (by have:=(aoZ.1 g1).1;omega);rw[H];by_cases U:e=i
      .subst U;rw[if_pos rfl];rcases arj j m with h3|h3|h3
       .simp;omega
       .simp;omega
       .have:=act c f e e A (a2 m j e e g1 G h3);omega
      .rw[if_neg U,L j e G,hm];have:j≠m:=λe2=>by subst e2;rw[g1]at G;cases G;exact U rfl
       congr 1;simp only[eq_iff_iff];omega
     rw[hm]at I;refine aai a4 I (EQ.aops (EQ.congr ad g2)) λE' T' L' a' w' bb ⟨U,e2⟩ ai=>ih _ a' w' E' (by simpa using y) ar a3 (hE.trans bb) ap ?_
     subst U;subst e2;rw[b5];exact ai.weak an rfl λ_ _ e=>.inr e
    .have hL:done es (b.setIfInBounds i true)=done es b:=by
      unfold done;refine List.countP_congr λe G=>?_
      rw[H,if_neg (λU:e=i=>g1 (U▸G))]
     have b6:=g2 (done es b) bt (λj e G hj=>by
      rcases hb:(tbl.getD e 0).testBit i with _|_
      .rfl
      .have d:=L j e G;rw[decide_eq_true hj]at d;have z:e<ops.size:=(by have:=bi e (apR G);omega);have:=gV c f l e i z (λX B=>l e X d B) hb;rw[J]at this;cases this) (λj e G hj=>by
      rcases hb:(tbl.getD i 0).testBit e with _|_
      .rfl
      .have d:=L j e G;rw[gV c f l i e A s hb]at d;have:=of_decide_eq_true d.symm;omega)
     refine akf a4 I (b6.congr ad) λE' a' w' bb ai=>ih _ a' w' E' (by simpa using y) ar a3 (hE.trans bb) ap ?_
     rw[hL];exact ai.weak an rfl λ_ _ e=>.inr e
   .
    refine absurd (λj hj=>?_) x;have d:=apa.1 R i (by simpa using A);simp only[apN,decide_eq_true_eq]at d;rcases d with W|W
    .omega
    .have h3:=apa.1 W j (by simp;omega);exact gV c f l i j A s h3
end
inductive Kd where
 |pure
 |read (n f:Nat)
 |eff
 deriving Inhabited,DecidableEq
abbrev o9:=Nat×aw×Tm×AV
def JK(P:Program)(L:List Blk):List o9->Prop
 |[]=>True
 |(_,o,T,v)::h=>AQ P o T L v/\JK P L h
def Sk:List o9->List o9
 |[]=>[]
 |(0,_)::h=>Sk h
 |(1,_)::h=>Sk h
 |(n+2,y)::h=>(n+1,y)::Sk h
def aeZ(f:Nat)(o:aw)(T:Tm)(v:AV)(H:List o9):List o9 :=
 match f with
 |0=>H
 |f+1=>(f+1,o,T,v)::H
def AG(P:Program)(K:Tm->List Blk->Prop):List (aw×Kd)->List (List Blk)->List o9->Tm->Prop
 |[],L::_,_,T=>K T L
 |(o,.pure)::r,L::Ls,H,T=>∃v,AQ P o T L v/\AG P K r (L::Ls) H (di o.dst v T)
 |(o,.read n f)::r,L::Ls,H,T=>∃v,(∀L'∈(L::Ls).take (n+1),AQ P o T L' v)/\AG P K r (L::Ls) (aeZ f o T v H) (di o.dst v T)
 |(o,.eff)::r,L::Ls,H,T=>∃v L2,EQ P o T L v L2/\JK P L2 H/\AG P K r (L2::L::Ls) (Sk H) (di o.dst v T)
 |_,[],_,_=>False
def oU:List (aw×Kd)->Nat
 |[]=>0
 |(_,.eff)::r=>oU r+1
 |_::r=>oU r
def mem(Ns:List (List Blk))(m:Nat):List Blk:=Ns.reverse.getD m []
theorem EK{X Ls:List (List Blk)}{m:Nat}(h:m<Ls.length):mem (X++Ls) m=Ls.getD (Ls.length-1-m) []:=by
 simp only[mem,List.reverse_append,apo]
 grind
theorem abF{P:Program}{L:List Blk}:∀{H:List o9},JK P L H->∀y∈H,AQ P y.2.1 y.2.2.1 L y.2.2.2
 |[],_,y,a=>by cases a
 | (f,o,T,v)::h,hr,y,a=>by
   rcases apn.1 a with rfl|a
   .exact hr.1
   .exact abF hr.2 y a
theorem VN:∀{H:List o9}{y:o9},y∈H->1<y.1->(y.1-1,y.2)∈Sk H
 |[],y,a,_=>by cases a
 | (0,z)::h,y,a,h1=>by
   rcases apn.1 a with rfl|a
   .omega
   .show(y.1-1,y.2)∈Sk h;exact VN a h1
 | (1,z)::h,y,a,h1=>by
   rcases apn.1 a with rfl|a
   .omega
   .show(y.1-1,y.2)∈Sk h;exact VN a h1
 | (n+2,z)::h,y,a,h1=>by
   rcases apn.1 a with rfl|a
   .simp[Sk]
   .exact aqu _ (VN a h1)
def ags(P:Program)(o:aw)(T:Tm)(Ns:List (List Blk))(v:AV)(c:Nat):Kd->Prop
 |.pure=>AQ P o T (mem Ns c) v
 |.read n f=>∀m,c-n<=m->m<=c+f->m<Ns.length->AQ P o T (mem Ns m) v
 |.eff=>EQ P o T (mem Ns c) v (mem Ns (c+1))
theorem aky{P:Program}{K:Tm->List Blk->Prop}:∀(qk:List (aw×Kd)) (Ls:List (List Blk)) (H:List o9) (T:Tm) (k:Nat),AG P K qk Ls H T ->
  ∃(tr:List AV) (X:List (List Blk)),tr.length=qk.length/\X.length=oU qk /\
   (∀y∈H,∀m,Ls.length<=m->m<Ls.length+y.1->m<(X++Ls).length->AQ P y.2.1 y.2.2.1 (mem (X++Ls) m) y.2.2.2) /\
   (∀i o kd v,qk[i]?=some (o,kd)->tr[i]?=some v->ags P o (TL T (qk.map (·.1)) tr k λj=>decide (j<k+i)) (X++Ls) v (Ls.length-1+oU (qk.take i)) kd) /\
   K (TL T (qk.map (·.1)) tr k λ_=>true) (mem (X++Ls) ((X++Ls).length-1)):=by
 intro qk;induction qk with
 | nil =>
   intro Ls H T k h;cases Ls with
   |nil=>exact h.elim
   | cons L Ls =>
     refine⟨[],[],rfl,rfl,λy _ m s _ I=>?_,λi o kd v a=>by simp at a,?_⟩
     .grind
     .rw[apx,<- apx (L::Ls),EK asp];have F:K T L:=h;simpa[TL]using F
 | cons q qk ih =>
   intro Ls H T k h;cases Ls with
   |nil=>rcases q with⟨o,_|_|_⟩<;>exact h.elim
   | cons L Ls =>
     obtain⟨o,kd⟩:=q;have d:∀(v:AV) (tr:List AV),TL T (((o,kd)::qk).map (·.1)) (v::tr) k (λj=>decide (j<k+0))=T:=λv tr=>by
      have e:TL T (((o,kd)::qk).map (·.1)) (v::tr) k (λj=>decide (j<k+0))=TL T (((o,kd)::qk).map (·.1)) (v::tr) k (λ_=>false):=acC λj _=>asp
      rw[e];exact aef _ _ _ _
     have r:∀(v:AV) (tr:List AV) (i:Nat),TL T (((o,kd)::qk).map (·.1)) (v::tr) k (λj=>decide (j<k+(i+1)))=TL (di o.dst v T) (qk.map (·.1)) tr (k+1) (λj=>decide (j<k+1+i)):=λv tr i=>by
      simp only[apv,TL]
      grind
     have g:∀(v:AV) (tr:List AV),TL T (((o,kd)::qk).map (·.1)) (v::tr) k (λ_=>true)=TL (di o.dst v T) (qk.map (·.1)) tr (k+1) (λ_=>true):=λv tr=>by rfl
     cases kd with
     | pure =>
       obtain⟨v,s,t⟩:=h;obtain⟨tr,X,g1,w,g3,g4,x⟩:=ih _ _ _ (k+1) t;refine⟨v::tr,X,by simp[g1],w,g3,λi p kd u a b=>?_,by rw[g];exact x⟩;cases i with
       | zero =>
         simp only[apU,ao1,apf]at a b;obtain⟨rfl,rfl⟩:=a;subst b;rw[d];simp only[aqx,oU,aqe,ags];rw[EK asp];simpa using s
       | succ i =>
         rw[r];exact g4 i p kd u (by simpa using a) (by simpa using b)
     | read n f =>
       obtain⟨v,s,t⟩:=h;obtain⟨tr,X,g1,w,g3,g4,x⟩:=ih _ _ _ (k+1) t;have E:∀y∈H,y∈aeZ f o T v H:=λy l=>by
        unfold aeZ;split
        .exact l
        .exact aqu _ l
       refine⟨v::tr,X,by simp[g1],w,λy l=>g3 y (E y l),λi p kd u a b=>?_,by rw[g];exact x⟩;cases i with
       | zero =>
         simp only[apU,ao1,apf]at a b;obtain⟨rfl,rfl⟩:=a;subst b;rw[d];simp only[aqx,oU,aqe,ags];intro m B A z;rcases apt m (L::Ls).length with c|c
         .rw[EK c];refine s _ ?_;have C:(L::Ls).length-1-m<(L::Ls).length:=aso;rw[apo,ao8 C,apT];rw[List.mem_take_iff_getElem];refine⟨(L::Ls).length-1-m,?_,rfl⟩;simp only[apb]at B c C⊢;omega
         .cases f with
          |zero=>simp only[apb]at A c;omega
          |succ f=>exact g3 (f+1,o,T,v) (by simp[aeZ]) m c (by simp only[apb]at A c⊢;omega) z
       | succ i =>
         rw[r];exact g4 i p kd u (by simpa using a) (by simpa using b)
     | eff =>
       obtain⟨v,L2,s,D,t⟩:=h;obtain⟨tr,X,g1,w,g3,g4,x⟩:=ih _ _ _ (k+1) t;have e:(X++[L2])++(L::Ls)=X++(L2::L::Ls):=asp;refine⟨v::tr,X++[L2],by simp[g1],by simp[oU,w],λy l m B A z=>?_,λi p kd u a b=>?_,by rw[g,e];exact x⟩
       .rw[e]at z⊢;rcases Nat.eq_or_lt_of_le B with c|c
        .subst c;rw[EK asp];have:=abF D y l;simpa using this
        .exact g3 _ (VN l aso) m (by simp only[apb]at c⊢;omega) (by simp only[apb]at A⊢;omega) z
       rw[e];cases i with
       | zero =>
         simp only[apU,ao1,apf]at a b;obtain⟨rfl,rfl⟩:=a;subst b;rw[d];simp only[aqx,oU,aqe,ags];rw[EK (by simp only[apb];omega),EK (by simp only[apb];omega)];simpa using s
       | succ i =>
         rw[r];have:=g4 i p kd u (by simpa using a) (by simpa using b);have G:(L2::L::Ls).length-1+oU (qk.take i)=(L::Ls).length-1+oU (((o,Kd.eff)::qk).take (i+1)):=by simp only[apb,aqD,oU];omega
         rw[G]at this;exact this
def LOp.pureB:LOp->Bool
 |.mv _|.pick .. |.build .. |.bin .. |.un .. |.faddr .. |.extract .. |.mkfn .. |.conv .. |.sconv .. |.eqk .. |.eq2 ..=>true
 |_=>false
theorem alk{P:Program}{o:aw}{T:Tm}{L:List Blk}(b:o.op.pureB=true)(h:AQ P o T L v):AQ P o T L' v:=by
 have key:∀{c:Prop}{av:AV}{L2:List Blk},au T L o.op=some (c,av,L2)->au T L' o.op=some (c,av,L'):=λ{c av L2} f=>by
  have e:au T L' o.op=(au T L o.op).map λx=>(x.1,x.2.1,L'):=by obtain⟨d,op,g⟩:=o;cases op<;>simp only[LOp.pureB,apj]at b<;>simp only[au]<;>(repeat' split)<;>simp[Option.map_map,Function.comp_def]
  simp[*]
 have a:AQv P o T L v->AQv P o T L' v:=λa=>by
  unfold AQv at a⊢;obtain⟨d,op,g⟩:=o;cases op<;>simp only[LOp.pureB,apj]at b<;>simp only at a⊢<;>(
   split at a
   .rename_i c av L2 f;rw[key f];exact⟨a.1,a.2.1,rfl⟩
   .exact a.elim)
 unfold AQ at h⊢;split at h;simp[*]
 grind
def fc:List (aw×Kd)->Nat->List Nat
 |[],_=>[]
 |(_,.eff)::r,k=>k::fc r (k+1)
 |_::r,k=>fc r (k+1)
theorem nv:∀(qk:List (aw×Kd)) (k:Nat),(fc qk k).length=oU qk
 |[],_=>rfl
 |(_,.pure)::r,k=>nv r (k+1)
 |(_,.read _ _)::r,k=>nv r (k+1)
 |(_,.eff)::r,k=>by simp[fc,oU,nv r (k+1)]
theorem ZG:∀(qk:List (aw×Kd)) (k i:Nat) (o:aw),qk[i]?=some (o,.eff)->(fc qk k)[oU (qk.take i)]?=some (k+i)
 |[],_,i,o,h=>by simp at h
 |(p,kd)::r,k,0,o,h=>by obtain⟨rfl,rfl⟩:=h;rfl
 |(p,kd)::r,k,i+1,o,h=>by have a:=ZG r (k+1) i o (by simpa using h);rw[show k+1+i=k+(i+1)by omega]at a;cases kd<;>simpa[fc,oU]using a
theorem ZF:∀(qk:List (aw×Kd)) (k e:Nat),e∈fc qk k->∃i o,e=k+i/\qk[i]?=some (o,.eff)
 |[],_,e,h=>by simp[fc]at h
 | (p,kd)::r,k,e,h=>by
   have go:e∈fc r (k+1)->∃i o,e=k+i/\((p,kd)::r)[i]?=some (o,.eff):=λa=>by
    obtain⟨i,o,rfl,b⟩:=ZF r (k+1) e a
    grind
   cases kd with
   |pure=>exact go h
   |read _ _=>exact go h
   | eff =>
     rcases apn.1 h with rfl|h
     .simp
     simp_all
def Wh(tbl:List Nat)(qk:List (aw×Kd)):Bool :=
 let es:=fc qk 0
 ((List.range es.length).all λj'=>(List.range j').all λj=>(tbl.getD (es.getD j' 0) 0).testBit (es.getD j 0)) &&
 qk.zipIdx.all λ((o,kd),i)=>match kd with
  |.pure=>o.op.pureB
  |.eff=>true
  | .read n f=>let c:=oU (qk.take i)
    (List.range es.length).all λj=>(!decide (j<c-n) ||(tbl.getD i 0).testBit (es.getD j 0))&&(!decide (c+f<=j) ||(tbl.getD (es.getD j 0) 0).testBit i)
section
variable {P:Program}{r:Option Nat}{w0:World}{S0:SB}{N:Nat}{own:Nat->Nat}{ops:Array Oper}{L:List Blk}
theorem aec{z:List aw}{n:Nat}(C:cQ P N own ops (List.range ops.size)=some z)(M:NF ops z n=true){qk:List (aw×Kd)}{ts:List aw}(p:z=qk.map (·.1)++ts)(hn:qk.length=n)(V:Wh (ph ops.toList []) qk=true){K:Tm->List Blk->Prop}{T:Tm}{Q:Exit->Act->World->Prop}{E0:Env}(h:AG P (nj P K ts) qk [L] [] T)(hQ:∀E' T' L' a' w',E0.le E'->K T' L'->St w0 S0 N E' T' L' a' w'->Q .normal a' w')(a:Act)(w:World)(E:Env)(hE:E0.le E)(I:St w0 S0 N E T L a w):
  wpAnyIn (gT r) 0 P .any ops Q ops.size (Array.replicate ops.size false) a w:=by
 obtain⟨tr,X,g1,g2,-,g4,Z⟩:=aky qk [L] [] T 0 h;have b:∀i,(Array.replicate ops.size false).getD i false=false:=λi=>by
  rw[aqv,Array.getElem?_replicate]
  grind
 simp only[Wh,ao3]at V;obtain⟨J,H⟩:=V;have s:=nv qk 0;have S:∀e∈fc qk 0,∃o,qk[e]?=some (o,.eff):=λe G=>by obtain⟨i,o,rfl,B⟩:=ZF qk 0 e G;simp[*]
 have t:(X++[L]).length=oU qk+1:=by simp[g2]
 refine afv (T:=T) (K:=K) (qs:=qk.map (·.1)) (ts:=ts) (tr:=tr) (es:=fc qk 0) (Ms:=mem (X++[L])) C M p (by simpa using hn) (λe G=>?_) (λj Y e e' h1 B h3=>?_) (by simpa using g1) (λi o v A hv=>?_) ?_ hQ ops.size _ a w E asp (by simp[List.count_replicate]) (λi o W=>by rw[b]at W;cases W) hE (λi _=>b i) ?_
 grind
 have l2:Y<(fc qk 0).length:=(aoZ.1 B).1;have:=apa.1 (apa.1 J Y (by simpa using l2)) j (by simpa using h3);simp_all;rw[apS,apE]at A;obtain⟨⟨U,kd⟩,A,rfl⟩:=A;have F:=g4 i U kd v A hv;simp only[asc,aqq,ap9]at F;have y:=apa.1 H ((U,kd),i) (by rw[ari];simpa using A);have k:kd≠.eff->i∉fc qk 0:=λR G=>by obtain⟨o2,B⟩:=S i G;rw[A]at B;cases B;exact R rfl
 cases kd with
 | eff =>
   refine .inl ⟨oU (qk.take i),?_,F⟩;simpa using ZG qk 0 i U A
 |pure=>exact .inr ⟨k asp,λm _ _ _=>alk (by simpa using y) F⟩
 | read n f =>
   refine .inr ⟨k asp,λm hm p1 p2=>?_⟩;simp only at y;have D:=λj (hj:j<(fc qk 0).length)=>apa.1 y j (by simpa using hj)
   have ad:oU (qk.take i)<=(fc qk 0).length:=by
    have:∀(l:List (aw×Kd)) (i:Nat),oU (l.take i)<=oU l:=by
     intro l;induction l with
     |nil=>intro i;simp
     | cons q l ih =>
       intro i;cases i with
       |zero=>simp[oU]
       |succ i=>obtain⟨o,_|_|_⟩:=q<;>simp only[aqD,oU]<;>have:=ih i<;>omega
    rw[s];exact this qk i
   refine F m ?_ ?_ (by rw[t];omega)
   .rcases apt m (oU (qk.take i)-n)with d|u
    .have hme:m<(fc qk 0).length:=aso;have:=D m hme;simp only[ao3,apN,apL,decide_eq_false_iff_not]at this;have O:=p2 m _ (ao8 hme) (ao0 _);rcases this.1 with c|c
     .exact absurd d c
     .rw[apo (l:=fc qk 0),ao8 hme]at c;simp only[apT]at c;rw[O]at c;cases c
    .exact u
   .rcases apt (oU (qk.take i)+f) m with d|u
    .have hme:oU (qk.take i)+f<(fc qk 0).length:=aso;have:=D _ hme;simp only[ao3,apN,apL,decide_eq_false_iff_not]at this;have O:=p1 _ _ (ao8 hme) d;rcases this.2 with c|c
     .exact absurd (ao0 _) c
     .rw[apo (l:=fc qk 0),ao8 hme]at c;simp only[apT]at c;rw[O]at c;cases c
    .exact u
 rw[t]at Z;rw[s];simpa using Z
 .have e:TL T (qk.map (·.1)) tr 0 (λj=>(Array.replicate ops.size false).getD j false)=T:=by refine Eq.trans (acC (g:=λ_=>false) λj _=>b _) (aef _ tr T 0)
  have e2:done (fc qk 0) (Array.replicate ops.size false)=0:=asb.2 λx _=>by rw[b];simp
  rw[e,e2,EK asp];simpa using I
end
inductive SOp where
 |op (o:aw)
 |grp (g:Option (Nat×Bool)) (t:Nat) (b:Bool) (body:List SOp) (d:Nat) (x:Opd)
 deriving Inhabited
def eD(g:Option (Nat×Bool))(t:Nat)(b:Bool)(d:Nat)(x:Opd):aw :=
 ⟨some d,.pick (.tmp t) (if b then x else .av (.bool true)) (if b then .av (.bool false)else x),g⟩
mutual
def SOp.flat:SOp->List aw
 |.op o=>[o]
 |.grp g t b body d x=>SOp.flatL body++[eD g t b d x]
def SOp.flatL:List SOp->List aw
 |[]=>[]
 |s::r=>SOp.flat s++SOp.flatL r
end
def bU(l:List aw):List Nat:=l.filterMap (·.dst)
def gds:List SOp->List Nat
 |[]=>[]
 |.op _::r=>gds r
 |.grp _ _ _ body _ _::r=>bU (SOp.flatL body)++gds r
def dt:SOp->List Nat
 |.op o=>o.dst.toList
 |.grp _ _ _ _ d _=>[d]
mutual
def okO(g:Nat×Bool)(seen:List Nat):SOp->Bool
 |.op o=>decide (o.guard=some g)
 |.grp g' t b body d x=>decide (g'=some g)&&seen.contains t && !(bU (SOp.flatL body)).contains t && !(bU (SOp.flatL body)).contains g.1&&okB (t,b) [] body
def okB(g:Nat×Bool)(seen:List Nat):List SOp->Bool
 |[]=>true
 |s::r=>okO g seen s&&(dt s).all (λd => !(gds r).contains d&&d != g.1)&&okB g (dt s++seen) r
end
def okS:List SOp->Bool
 |[]=>true
 |.op o::r=>o.dst.toList.all (λd => !(gds r).contains d)&&okS r
 |.grp g t b body d x::r=>decide (g=none) && !(bU (SOp.flatL body)).contains t&&okB (t,b) [] body && !(gds r).contains d&&okS r
def mrg(b p q:Bool):Bool:=if b then p&&q else p ||q
def aku(P:Program)(f:FuncId)(args:List AV)(L:List Blk)(k:AV->Prop):Prop:=∃v,af P f args L (λav L'=>av=v/\L'=L)/\k v
theorem aM{P:Program}{f:FuncId}{args:List AV}{L:List Blk}{k:AV->Prop}(h:af P f args L (λav L'=>av=v/\L'=L))(a:k v):aku P f args L k:=⟨v,h,a⟩
def IsB:Option AV->Bool->Prop:=λo q=>o=some (.bool q)
theorem bL{q:Bool}:IsB (some (.bool q)) q:=rfl
def IsX(x:Opd)(q:Bool)(T:Tm):Prop:=IsB (evX T x) q
def aks(k:Tm->Prop)(d:Option Nat)(T:Tm)(v:AV):Prop:=k (di d v T)
def aoB(P:Program)(f:FuncId)(L:List Blk)(k:AV->Prop):Option (List AV)->Prop
 |some args=>aku P f args L k
 |none=>False
def agu(P:Program)(L:List Blk)(k:AV->Prop):Option AV->Option (List AV)->Prop
 |some (.func g caps),some args=>aku P g (args++caps) L k
 |_,_=>False
def aox(L:List Blk)(k:AV->Prop):Option (Prop×AV×List Blk)->Prop
 |some (c,av,L')=>c/\L'=L/\k av
 |none=>False
def GOp(P:Program)(L:List Blk)(o:aw)(k:Tm->Prop)(T:Tm):Prop :=
 match o.op with
 |.call f xs=>aoB P f L (aks k o.dst T) (jc T xs)
 |.callv f xs=>agu P L (aks k o.dst T) (evX T f) (jc T xs)
 |lo=>aox L (aks k o.dst T) (au T L lo)
mutual
def GL(P:Program)(L:List Blk):List SOp->(Tm->Prop)->Tm->Prop
 |[],k,T=>k T
 |s::r,k,T=>GO P L s (GL P L r k) T
def GO(P:Program)(L:List Blk):SOp->(Tm->Prop)->Tm->Prop
 |.op o,k,T=>GOp P L o k T
 | .grp _ t b body d x,k,T=>match ay T t with
   |some (.bool p)=>∃q,(p=b->GL P L body (IsX x q) T)/\k ((d,.bool (mrg b p q))::T)
   |_=>False
end
def GQ(P:Program)(L:List Blk)(b:Bool)(body:List SOp)(d:Nat)(x:Opd)(k:Tm->Prop)(T:Tm)(p:Bool):Prop :=
 ∃q,(p=b->GL P L body (IsX x q) T)/\k ((d,.bool (mrg b p q))::T)
def GG(P:Program)(L:List Blk)(b:Bool)(body:List SOp)(d:Nat)(x:Opd)(k:Tm->Prop)(T:Tm):Option AV->Prop
 |some (.bool p)=>GQ P L b body d x k T p
 |_=>False
theorem anA{P:Program}{L:List Blk}{k:Tm->Prop}{T:Tm}:GL P L [] k T=k T:=by rw[GL]
theorem aoA{P:Program}{L:List Blk}{o:aw}{r:List SOp}{k:Tm->Prop}{T:Tm}:GL P L (.op o::r) k T=GOp P L o (GL P L r k) T:=by rw[GL,GO]
theorem anB{P:Program}{L:List Blk}{g:Option (Nat×Bool)}{t d:Nat}{b:Bool}{body r:List SOp}{x:Opd}{k:Tm->Prop}{T:Tm}:GL P L (.grp g t b body d x::r) k T=GG P L b body d x (GL P L r k) T (ay T t):=by rw[GL,GO];rfl
theorem amb{P:Program}{L:List Blk}{d:Nat}{b p:Bool}{body:List SOp}{x:Opd}{k:Tm->Prop}{T:Tm}:GG P L b body d x k T (some (.bool p))=GQ P L b body d x k T p:=rfl
theorem aoz{P:Program}{L:List Blk}{d:Nat}{body:List SOp}{x:Opd}{k:Tm->Prop}{T:Tm}:GQ P L true body d x k T false=k ((d,.bool false)::T):=by simp[GQ,mrg]
theorem aoy{P:Program}{L:List Blk}{d:Nat}{body:List SOp}{x:Opd}{k:Tm->Prop}{T:Tm}:GQ P L false body d x k T true=k ((d,.bool true)::T):=by simp[GQ,mrg]
def SL(P:Program):List SOp->(Tm->List Blk->Prop)->Tm->List Blk->Prop
 |[],K,T,L=>K T L
 | .op o::r,K,T,L=>match o.guard with
   |none=>AOp P o (SL P r K) T L
   |some (t,b)=>Grd P o (SL P r K) b T L (ay T t)
 |.grp _ t b body d x::r,K,T,L=>GG P L b body d x (λT'=>SL P r K T' L) T (ay T t)
def SK(P:Program)(r:List SOp)(K:Tm->List Blk->Prop)(L:List Blk)(T:Tm):Prop:=SL P r K T L
theorem aou{P:Program}{r:List SOp}{K:Tm->List Blk->Prop}{L:List Blk}{T:Tm}:SK P r K L T=SL P r K T L:=rfl
theorem anv{P:Program}{K:Tm->List Blk->Prop}{L:List Blk}{T:Tm}:SL P [] K T L=K T L:=rfl
theorem aot{P:Program}{d:Option Nat}{op:LOp}{r:List SOp}{K:Tm->List Blk->Prop}{L:List Blk}{T:Tm}:SL P (.op ⟨d,op,none⟩::r) K T L=AOp P ⟨d,op,none⟩ (SL P r K) T L:=rfl
theorem anu{P:Program}{d:Option Nat}{op:LOp}{t:Nat}{b:Bool}{r:List SOp}{K:Tm->List Blk->Prop}{L:List Blk}{T:Tm}:SL P (.op ⟨d,op,some (t,b)⟩::r) K T L=Grd P ⟨d,op,some (t,b)⟩ (SL P r K) b T L (ay T t):=rfl
theorem anw{P:Program}{g:Option (Nat×Bool)}{t d:Nat}{b:Bool}{body r:List SOp}{x:Opd}{K:Tm->List Blk->Prop}{L:List Blk}{T:Tm}:SL P (.grp g t b body d x::r) K T L=GG P L b body d x (SK P r K L) T (ay T t):=rfl
def sel:List Bool->Tm->Tm
 |[],T=>T
 |true::m,x::T=>x::sel m T
 |false::m,_::T=>sel m T
 |_::_,[]=>[]
theorem afU{T:Tm}:sel [] T=T:=by cases T<;>rfl
theorem ami{m:List Bool}{x:Nat×AV}{T:Tm}:sel (true::m) (x::T)=x::sel m T:=rfl
theorem amj{m:List Bool}{x:Nat×AV}{T:Tm}:sel (false::m) (x::T)=sel m T:=rfl
section
variable {P:Program}{ro:Option Nat}{w0:World}{S0:SB}{N:Nat}
def Fr(ds:List Nat)(T:Tm):Prop:=∀d∈ds,ay T d=none
theorem oW{d:Option Nat}{v:AV}{T:Tm}{t:Nat}(h:d≠some t):ay (di d v T) t=ay T t:=by
 cases d with
 |none=>rfl
 |some d=>simp only[di,ay];rw[if_neg (λe=>h (by rw[e]))]
theorem iT{own:Nat->Nat}{ops:Array Oper}:∀{l m:List aw}{is:List Nat},cQ P N own ops is=some (l++m)->∃a ks,is=a++ks/\cQ P N own ops a=some l/\cQ P N own ops ks=some m
 |[],m,is,h=>⟨[],is,rfl,rfl,h⟩
 | o::l,m,is,h=>by
   cases is with
   |nil=>simp[cQ]at h
   | cons i is =>
     simp only[cQ]at h;split at h<;>try cases h
     rename_i e f d c;obtain⟨a,ks,rfl,b,h4⟩:=iT (l:=l) (m:=m) c;refine⟨i::a,ks,rfl,?_,h4⟩;simp only[cQ,d,b]
theorem m7{own:Nat->Nat}{ops:Array Oper}{o:aw}{is:List Nat}(h:cQ P N own ops is=some [o]):∃i,is=[i]/\nr P N own ops i=some o:=by
 cases is with
 |nil=>simp[cQ]at h
 | cons i is =>
   simp only[cQ]at h;split at h<;>try cases h
   rename_i c d b a;cases is with
   |nil=>exact⟨i,rfl,b⟩
   | cons j is =>
     simp only[cQ]at a;split at a<;>cases a
theorem Yt{own:Nat->Nat}{ops:Array Oper}{K:Tm->List Blk->Prop}{Q:Exit->Act->World->Prop}{i:Nat}{k:aw}{rest:List Nat}(u:nr P N own ops i=some k){T:Tm}{L:List Blk}{E:Env}{a:Act}{w:World}(d:St w0 S0 N E T L a w)(l:k.guard=none\/∃t b,k.guard=some (t,b)/\ay T t=some (.bool b))(h:AOp P k K T L)(r:∀E' T' L' n w',E.le E'->K T' L'->St w0 S0 N E' T' L' n w'->wpOpsIn (gT ro) 0 P ops Q rest n w'):wpOpsIn (gT ro) 0 P ops Q (i::rest) a w:=by
 obtain⟨o,v,g,c,q,f⟩:=ja u;obtain⟨A,y,z⟩:=k;simp only at g c f l;subst c;simp only[wpOpsIn,v];have p:Region.wanted o (yielded ops a.tmps)=true:=by rcases f with⟨g1,m⟩|⟨j,b,t,g1,m,g3,g4⟩;simp[Region.wanted,g1];subst g4;rcases l with l|⟨t',B,e,s⟩;cases l;cases e;have x:=kr (E:=E) (T:=T) (a:=a) (ops:=ops) d.2.1 m (by rw[d.2.2.1];exact g3);simp[Region.wanted,g1,x.1 b s]
 rw[if_pos p];exact Ol g q d h r
theorem Zd{own:Nat->Nat}{ops:Array Oper}{Q:Exit->Act->World->Prop}{i:Nat}{h:aw}{rest:List Nat}(r:nr P N own ops i=some h){T:Tm}{L:List Blk}{E:Env}{a:Act}{w:World}(d:St w0 S0 N E T L a w){t:Nat}{b:Bool}(g:h.guard=some (t,b))(f:ay T t=some (.bool (!b))\/ay T t=some (.tup []))(m:∀p,St w0 S0 N E (di h.dst (.tup []) T) L p w->wpOpsIn (gT ro) 0 P ops Q rest p w):wpOpsIn (gT ro) 0 P ops Q (i::rest) a w:=by
 obtain⟨o,u,k,c,s,e⟩:=ja r;obtain⟨y,v,x⟩:=h;simp only at k c e g m;subst c;simp only[wpOpsIn,u];have q:Region.wanted o (yielded ops a.tmps)=false:=by rcases e with⟨g1,l⟩|⟨j,z,t',g1,l,g3,g4⟩;rw[l]at g;cases g;rw[g4]at g;cases g;have n:=kr (E:=E) (T:=T) (a:=a) (ops:=ops) d.2.1 l (by rw[d.2.2.1];exact g3);rcases f with f|f;simp[Region.wanted,g1,n.1 _ f];simp[Region.wanted,g1,n.2 f]
 rw[if_neg (by simp[q])];exact⟨λ_ _=>trivial,m _ (S5 d s)⟩
def Ext(ds:List Nat)(T T':Tm):Prop:=∀t v,t∉ds->ay T t=some v->ay T' t=some v
mutual
theorem amI{own:Nat->Nat}{ops:Array Oper}{Q:Exit->Act->World->Prop}{L:List Blk}{E:Env}{w:World}(s:SOp){g:Nat×Bool}{seen:List Nat}{is rest:List Nat}{T:Tm}{a:Act}(c:okO g seen s=true)(z:cQ P N own ops is=some s.flat)(p:St w0 S0 N E T L a w)(I:ay T g.1=some (.bool (!g.2))\/ay T g.1=some (.tup []))(m:∀d∈seen,ay T d=some (.tup []))(y:∀T' u,Ext (bU s.flat) T T'->(∀d,ay T d=some (.tup [])->ay T' d=some (.tup []))->(∀d∈dt s,ay T' d=some (.tup []))->St w0 S0 N E T' L u w->wpOpsIn (gT ro) 0 P ops Q rest u w):wpOpsIn (gT ro) 0 P ops Q (is++rest) a w:=by
 have r:∀(A:Option Nat) (T:Tm) (d:Nat),ay T d=some (.tup [])->ay (di A (.tup []) T) d=some (.tup []):=λA T d h=>by
  cases A with
  |none=>exact h
  | some A =>
    simp only[di,ay];split
    .rfl
    .exact h
 cases s with
 | op o =>
   simp only[SOp.flat]at z y;obtain⟨i,rfl,H⟩:=m7 z;simp only[okO,decide_eq_true_eq]at c;refine Zd H p (t:=g.1) (b:=g.2) c I λu F=>y _ u (λt v n C=>?_) (r _ _) (λd k=>?_) F
   .rw[oW (λe=>n (by simp[bU,e]))];exact C
   .simp only[dt,arQ]at k;rw[k];simp[di,ay]
 | grp g' t b body d x =>
   simp only[okO,ao3,decide_eq_true_eq,aqw,apL,ap2,decide_eq_false_iff_not]at c;obtain⟨⟨⟨⟨B,n⟩,M⟩,D⟩,O⟩:=c;simp only[SOp.flat]at z y;obtain⟨S,ks,rfl,H,K⟩:=iT z;obtain⟨i,rfl,R⟩:=m7 K;rw[apc];refine Yn body O H p (.inr (m t (by simpa using n))) asp λT' u f j q=>?_
   refine Zd R q (t:=g.1) (b:=g.2) (by simp[eD,B]) ?_ λG l=>y _ G (λt v n C=>?_) (λd k=>r _ _ _ (j d k)) (λd k=>?_) l
   .exact I.imp (λh=>f _ _ D h) (λh=>j _ h)
   .rw[oW (λe=>n (by simp only[eD]at e;simp[bU,eD,e]))];exact f t v (λJ=>n (by simp only[bU,aqa,ao5];exact .inl J)) C
   .simp only[dt,apr]at k;subst k;simp[eD,di,ay]
theorem Yn{own:Nat->Nat}{ops:Array Oper}{Q:Exit->Act->World->Prop}{L:List Blk}{E:Env}{w:World}(l:List SOp){g:Nat×Bool}{seen:List Nat}{is rest:List Nat}{T:Tm}{a:Act}(n:okB g seen l=true)(k:cQ P N own ops is=some (SOp.flatL l))(m:St w0 S0 N E T L a w)(H:ay T g.1=some (.bool (!g.2))\/ay T g.1=some (.tup []))(f:∀d∈seen,ay T d=some (.tup []))(q:∀T' D,Ext (bU (SOp.flatL l)) T T'->(∀d,ay T d=some (.tup [])->ay T' d=some (.tup []))->St w0 S0 N E T' L D w->wpOpsIn (gT ro) 0 P ops Q rest D w):wpOpsIn (gT ro) 0 P ops Q (is++rest) a w:=by
 cases l with
 | nil =>
   simp only[SOp.flatL]at k q;have:is=[]:=by
    cases is with
    |nil=>rfl
    | cons i is =>
      simp only[cQ]at k;split at k<;>cases k
   subst this;exact q T a (λ_ _ _ h=>h) (λ_ h=>h) m
 | cons s r =>
   simp only[okB,ao3,apa,apL,bne_iff_ne]at n;obtain⟨⟨C,F⟩,R⟩:=n;simp only[SOp.flatL]at k q;obtain⟨S,ks,rfl,h4,M⟩:=iT k;rw[apc];refine amI s C h4 m H f λT' D G B J p=>?_
   have A:ay T' g.1=some (.bool (!g.2))\/ay T' g.1=some (.tup []):=by
    by_cases c:g.1∈bU s.flat
    .cases s with
     | op o =>
       simp only[bU,SOp.flat,arR,List.filterMap_nil]at c;cases e:o.dst with
       |none=>simp[e]at c
       | some d =>
         simp[e]at c;exact absurd c.symm (F d (by simp[dt,e])).2
     | grp g' t b body d x =>
       simp only[okO,ao3,apL,ap2,decide_eq_false_iff_not]at C;simp only[bU,SOp.flat,aqa,ao5]at c;rcases c with c|c
       .exact absurd c C.1.2
       .simp[eD]at c;exact absurd c.symm (F d (by simp[dt])).2
    .exact H.imp (G _ _ c) (B _)
   refine Yn r R M p A (λd e=>?_) λy z I O j=>q y z (λt v u K=>?_) (λd e=>O d (B d e)) j
   .rcases ao5.1 e with e|e
    .exact J d e
    .exact B d (f d e)
   .simp only[bU,aqa,ao5,not_or]at u;exact I t v u.2 (G t v u.1 K)
end
theorem Fr.put{ds:List Nat}{T:Tm}{d:Option Nat}{v:AV}(h:Fr ds T)(b:∀k,d=some k->k∉ds):Fr ds (di d v T):=λk a=>by rw[oW (λe=>b k e a)];exact h k a
mutual
theorem ajP(s:SOp):∀d∈gds [s],d∈bU s.flat:=by
 cases s with
 |op o=>simp[gds]
 | grp g t b body d x =>
   intro u a;simp only[gds,apG]at a;simp only[SOp.flat,bU,aqa,ao5];exact .inl a
end
theorem VF(s:SOp)(r:List SOp):gds (s::r)=gds [s]++gds r:=by cases s<;>simp[gds]
theorem VE:∀(l:List SOp),∀d∈gds l,d∈bU (SOp.flatL l)
 |[],d,h=>by simp[gds]at h
 |s::r,d,h=>by rw[VF,ao5]at h;simp only[SOp.flatL,bU,aqa,ao5];exact h.imp (ajP s d) (VE r d)
theorem adf(s:SOp):∀d∈dt s,d∈bU s.flat:=by
 cases s with
 | op o =>
   intro d c;simp only[dt,arQ]at c;simp[SOp.flat,bU,c]
 | grp g t b body d x =>
   intro u a;simp only[dt,apr]at a;subst a;simp[SOp.flat,bU,eD]
mutual
theorem am9{own:Nat->Nat}{ops:Array Oper}{Q:Exit->Act->World->Prop}{L:List Blk}(s:SOp){g:Nat×Bool}{seen:List Nat}{is rest:List Nat}{T:Tm}{a:Act}{E:Env}{w:World}{k:Tm->Prop}(hok:okO g seen s=true)(hl:cQ P N own ops is=some s.flat)(hst:St w0 S0 N E T L a w)(hx:ay T g.1=some (.bool g.2))(hfr:∀d∈gds [s],ay T d=none)(h:GO P L s k T)(hK:∀E' T' a' w',E.le E'->k T'->Ext (dt s) T T'->(∀d,d∉dt s->ay T d=none->ay T' d=none)->St w0 S0 N E' T' L a' w'->wpOpsIn (gT ro) 0 P ops Q rest a' w'):wpOpsIn (gT ro) 0 P ops Q (is++rest) a w:=by
 cases s with
 | op o =>
   simp only[SOp.flat]at hl;obtain⟨i,rfl,h1⟩:=m7 hl;simp only[okO,decide_eq_true_eq]at hok;simp only[GO]at h;have ext:∀v,Ext (dt (.op o)) T (di o.dst v T):=λv t x ht hv=>by rw[oW (λe=>ht (by simp[dt,e]))];exact hv
   have fre:∀v d,d∉dt (.op o)->ay T d=none->ay (di o.dst v T) d=none:=λv d hd hn=>by rw[oW (λe=>hd (by simp[dt,e]))];exact hn
   have hA:AOp P o (λT' L'=>L'=L/\∃v,T'=di o.dst v T/\k T') T L:=by
    obtain⟨d,op,gd⟩:=o;have call:∀{f:FuncId}{args:List AV},aku P f args L (aks k d T)->af P f args L (Kon (λT' L'=>L'=L/\∃v,T'=di d v T/\k T') d T):=λ{f args} ⟨v,h1,h2⟩ =>
     h1.mono λav L' ⟨e1,e2⟩=>by subst e1;subst e2;exact⟨rfl,av,rfl,h2⟩
    simp only[GOp]at h;simp only[AOp];cases op
    case call f xs =>
     simp only at h⊢;cases he:jc T xs with
     |none=>rw[he]at h;exact h.elim
     |some args=>rw[he]at h;exact call h
    case callv f xs =>
     simp only at h⊢;cases hf:evX T f with
     |none=>rw[hf]at h;exact h.elim
     | some u =>
       rw[hf]at h;cases he:jc T xs with
       |none=>rw[he]at h;cases u<;>exact h.elim
       | some args =>
         rw[he]at h;cases u<;>simp only[agu]at h;exact call h
    all_goals
     simp only at h⊢;generalize au T L _=r at h⊢;cases r with
     |none=>exact h.elim
     | some r =>
       obtain⟨c,av,L'⟩:=r;exact⟨h.1,h.2.1,av,rfl,h.2.2⟩
   refine Yt h1 hst (.inr ⟨g.1,g.2,hok,hx⟩) hA λE' T' L' a' w' hle ⟨e1,v,e2,hk⟩ hst'=>?_
   subst e1;subst e2;exact hK E' _ a' w' hle hk (ext v) (fre v) hst'
 | grp g' t b body d x =>
   simp only[okO,ao3,decide_eq_true_eq,apL,ap2,decide_eq_false_iff_not]at hok;obtain⟨⟨⟨⟨hg',ht⟩,htb⟩,hgb⟩,hb⟩:=hok;simp only[SOp.flat]at hl;obtain⟨js,ks,rfl,h1,h2⟩:=iT hl;obtain⟨i,rfl,h3⟩:=m7 h2;rw[apc];simp only[GO]at h;have hfr':Fr (bU (SOp.flatL body)) T:=λd' hd'=>hfr d' (by simp[gds,hd'])
   have fin:∀{E':Env}{T':Tm}{a':Act}{w':World}(p q:Bool),E.le E'->St w0 S0 N E' T' L a' w'->Ext (bU (SOp.flatL body)) T T'->ay T t=some (.bool p)->(p=b->evX T' x=some (.bool q))->k ((d,.bool (mrg b p q))::T)->wpOpsIn (gT ro) 0 P ops Q ([i]++rest) a' w':=λ{E' T' a' w'} p q hle hst' hext hp hq hk=>by
    have hv:au T' L (.pick (.tmp t) (if b then x else .av (.bool true)) (if b then .av (.bool false)else x))=some (True,.bool (mrg b p q),L):=by have ht':ay T' t=some (.bool p):=hext _ _ htb hp;cases b<;>cases p<;>simp[au,evX,ht',mrg]<;>exact hq rfl
    refine Yt h3 hst' (.inr ⟨g.1,g.2,by simp[eD,hg'],hext _ _ hgb hx⟩) (K:=λT'' L''=>T''=(d,.bool (mrg b p q))::T'/\L''=L) ?_ λE'' T'' L'' a'' w'' hle' ⟨e1,e2⟩ hst''=>?_
    .simp only[eD,AOp,hv,Res,di,and_self]
    .subst e1;subst e2;refine hK E'' ((d,.bool (mrg b p q))::T) a'' w'' (hle.trans hle') hk (λu v hu hv=>?_) (λu hu hn=>?_) ⟨hst''.1,hst''.2.1.weak λu v hu=>?_,hst''.2.2⟩
     .simp only[dt,apr]at hu;simp only[ay];rw[if_neg (Ne.symm hu)];exact hv
     .simp only[dt,apr]at hu;simp only[ay];rw[if_neg (Ne.symm hu)];exact hn
     .simp only[ay]at hu⊢;split
      .rename_i e;rw[if_pos e]at hu;exact hu
      .rename_i e;rw[if_neg e]at hu;refine hext u v (λhm=>?_) hu;rw[hfr' u hm]at hu;cases hu
   rcases hp:ay T t with _|u
   .rw[hp]at h;exact h.elim
   rw[hp]at h;cases u<;>try exact h.elim
   rename_i p;obtain⟨q,hq,hk⟩:=h;by_cases e:p=b
   .subst e;refine ach body hb h1 hst hp (λd hd=>hfr' d (VE body d hd)) (hq rfl) λE' T' a' w' hle hx' hext hst'=>fin p q hle hst' hext hp (λ_=>hx') hk
   .have:p = !b:=(by cases p<;>cases b<;>simp_all);refine Yn body hb h1 hst (.inl (by rw[hp,this])) asp λT' a' hext _ hst'=>fin p q (.refl E) hst' hext hp (λe'=>absurd e' e) hk
theorem ach{own:Nat->Nat}{ops:Array Oper}{Q:Exit->Act->World->Prop}{L:List Blk}(l:List SOp){g:Nat×Bool}{seen:List Nat}{is rest:List Nat}{T:Tm}{a:Act}{E:Env}{w:World}{k:Tm->Prop}(j:okB g seen l=true)(e:cQ P N own ops is=some (SOp.flatL l))(f:St w0 S0 N E T L a w)(I:ay T g.1=some (.bool g.2))(b:Fr (gds l) T)(h:GL P L l k T)(H:∀E' T' D w',E.le E'->k T'->Ext (bU (SOp.flatL l)) T T'->St w0 S0 N E' T' L D w'->wpOpsIn (gT ro) 0 P ops Q rest D w'):wpOpsIn (gT ro) 0 P ops Q (is++rest) a w:=by
 cases l with
 | nil =>
   simp only[SOp.flatL]at e;have:is=[]:=by
    cases is with
    |nil=>rfl
    | cons i is =>
      simp only[cQ]at e;split at e<;>cases e
   subst this;rw[GL]at h;exact H E T a w (.refl E) h (λ_ _ _ h=>h) f
 | cons s r =>
   simp only[okB,ao3,apa,apL,bne_iff_ne,ap2,decide_eq_false_iff_not]at j;obtain⟨⟨S,F⟩,O⟩:=j;simp only[SOp.flatL]at e;obtain⟨U,ks,rfl,h4,M⟩:=iT e;rw[apc];rw[GL]at h;rw[VF]at b;refine am9 s S h4 f I (λd q=>b d (aqh _ q)) h λE' T' D w' y x G R p=>?_
   refine ach r O M p (G _ _ (λm=>(F _ m).2 rfl) I) (λd q=>R d (λm=>(F d m).1 q) (b d (aqP _ q))) x λu A B C o n J c=>H u A B C (y.trans o) n (λt v z K=>?_) c
   simp only[SOp.flatL,bU,aqa,ao5,not_or]at z;exact J t v z.2 (G t v (λm=>z.1 (adf s t m)) K)
end
theorem amg{o:aw}{K:Tm->List Blk->Prop}{T:Tm}{L:List Blk}(h:AOp P o K T L):AOp P o (λT' L'=>K T' L'/\∃v,T'=di o.dst v T) T L:=by
 obtain⟨d,op,gd⟩:=o;have call:∀{f:FuncId}{args:List AV},af P f args L (Kon K d T)->af P f args L (Kon (λT' L'=>K T' L'/\∃v,T'=di d v T) d T):=λ{f args} h=>h.mono λav L' h=>⟨h,av,rfl⟩
 simp only[AOp]at h⊢;cases op
 case call f xs =>
  simp only at h⊢;cases he:jc T xs with
  |none=>rw[he]at h;exact h.elim
  |some args=>rw[he]at h;exact call h
 case callv f xs =>
  simp only at h⊢;cases hf:evX T f with
  |none=>rw[hf]at h;cases he:jc T xs<;>rw[he]at h<;>exact h.elim
  | some u =>
    rw[hf]at h;cases he:jc T xs with
    |none=>rw[he]at h;cases u<;>exact h.elim
    | some args =>
      rw[he]at h;cases u<;>simp only[ah0]at h
      case yld i=>exact aaO.mono h λav L' h=>⟨h,av,rfl⟩
      exact call h
 all_goals
  simp only at h⊢;generalize au T L _=r at h⊢;cases r with
  |none=>exact h.elim
  |some r=>exact⟨h.1,h.2,r.2.1,rfl⟩
theorem JR{own:Nat->Nat}{ops:Array Oper}{Q:Exit->Act->World->Prop}{K:Tm->List Blk->Prop}:∀(l:List SOp){is:List Nat}{T:Tm}{L:List Blk}{a:Act}{E:Env}{w:World},okS l=true->cQ P N own ops is=some (SOp.flatL l) ->
  St w0 S0 N E T L a w->Fr (gds l) T->SL P l K T L->(∀E' T' L' y w',E.le E'->K T' L'->St w0 S0 N E' T' L' y w'->Q .normal y w')->wpOpsIn (gT ro) 0 P ops Q is a w
 | [],is,T,L,a,E,w,hok,hl,hst,hfr,h,hK=>by
   simp only[SOp.flatL]at hl;have:is=[]:=by
    cases is with
    |nil=>rfl
    | cons i is =>
      simp only[cQ]at hl;split at hl<;>cases hl
   subst this;exact hK E T L a w (.refl E) h hst
 | .op o::r,is,T,L,a,E,w,hok,hl,hst,hfr,h,hK=>by
   simp only[okS,ao3,apa,arQ,apL,ap2,decide_eq_false_iff_not]at hok;simp only[SOp.flatL,SOp.flat,arv]at hl;obtain⟨js,ks,rfl,Z,Y⟩:=iT (l:=[o]) hl;obtain⟨i,rfl,X⟩:=m7 Z;have B:∀v,Fr (gds r) (di o.dst v T):=λv=>Fr.put (ds:=gds r) hfr λk C=>hok.1 k C
   have M:(o.guard=none\/∃t b,o.guard=some (t,b)/\ay T t=some (.bool b))->AOp P o (SL P r K) T L->wpOpsIn (gT ro) 0 P ops Q ([i]++ks) a w:=λm h =>
    Yt X hst m (amg h) λE' T' L' y w' n ⟨hs,v,e⟩ c=>by subst e;exact JR r hok.2 Y c (B v) hs λU z A W S s=>hK U z A W S (n.trans s)
   have F:∀t b,o.guard=some (t,b)->(ay T t=some (.bool (!b))\/ay T t=some (.tup []))->SL P r K (di o.dst (.tup []) T) L->wpOpsIn (gT ro) 0 P ops Q ([i]++ks) a w:=λt b m J h =>
    Zd X hst m J λy c=>JR r hok.2 Y c (B _) h hK
   rw[SL]at h;rcases m:o.guard with _|⟨t,b⟩
   .rw[m]at h;exact M (.inl m) h
   .rw[m]at h;simp only at h;rcases J:ay T t with _|u
    .rw[J]at h;exact h.elim
    rw[J]at h;cases u<;>try exact h.elim
    .rename_i x;rw[EB]at h;by_cases e:x=b
     .rw[if_pos e]at h;exact M (.inr ⟨t,b,m,by rw[J,e]⟩) h
     .rw[if_neg e]at h;have:x = !b:=(by cases x<;>cases b<;>simp_all);exact F t b m (.inl (by rw[J,this])) h
    .rename_i l;cases l with
     |cons _ _=>exact h.elim
     |nil=>exact F t b m (.inr J) h
 | .grp g t b body d x::r,is,T,L,a,E,w,hok,hl,hst,hfr,h,hK=>by
   simp only[okS,ao3,decide_eq_true_eq,apL,ap2,decide_eq_false_iff_not]at hok;obtain⟨⟨⟨⟨m,an⟩,hb⟩,hd⟩,hr⟩:=hok;simp only[SOp.flatL,SOp.flat,apc]at hl;obtain⟨js,ar,rfl,Z,Y⟩:=iT hl;obtain⟨ap,ks,rfl,ai,h4⟩:=iT Y;obtain⟨i,rfl,X⟩:=m7 ai;rw[SL]at h;have G:Fr (bU (SOp.flatL body)) T:=λd' H=>hfr d' (by simp[gds,H])
   have O:Fr (gds r) T:=λd' H=>hfr d' (by simp[gds,H])
   have R:∀{E':Env}{T':Tm}{y:Act}{w':World}(p q:Bool),E.le E'->St w0 S0 N E' T' L y w'->Ext (bU (SOp.flatL body)) T T'->ay T t=some (.bool p)->(p=b->evX T' x=some (.bool q))->SL P r K ((d,.bool (mrg b p q))::T) L->wpOpsIn (gT ro) 0 P ops Q ([i]++ks) y w':=λ{E' T' y w'} p q n c f D hq C=>by
    have hv:au T' L (.pick (.tmp t) (if b then x else .av (.bool true)) (if b then .av (.bool false)else x))=some (True,.bool (mrg b p q),L):=by have ad:ay T' t=some (.bool p):=f _ _ an D;cases b<;>cases p<;>simp[au,evX,ad,mrg]<;>exact hq rfl
    refine Yt X c (.inl (by simp[eD,m])) (K:=λz A=>z=(d,.bool (mrg b p q))::T'/\A=L) ?_ λU z A W S s ⟨e1,e2⟩ j=>?_
    .simp only[eD,AOp,hv,Res,di,and_self]
    .subst e1;subst e2;refine JR r hr h4 (T:=(d,.bool (mrg b p q))::T) ⟨j.1,j.2.1.weak λu v I=>?_,j.2.2⟩ (Fr.put (d:=some d) O λk C=>by cases C;exact hd) C λE3 T3 L3 a3 w3 V=>hK E3 T3 L3 a3 w3 ((n.trans s).trans V)
     simp only[ay]at I⊢;split
     .rename_i e;rw[if_pos e]at I;exact I
     .rename_i e;rw[if_neg e]at I;refine f u v (λhm=>?_) I;rw[G u hm]at I;cases I
   rcases D:ay T t with _|u
   .rw[D]at h;exact h.elim
   rw[D]at h;cases u<;>try exact h.elim
   rename_i p;obtain⟨q,hq,C⟩:=h;by_cases e:p=b
   .subst e;exact ach body hb Z hst D (λd hd=>G d (VE body d hd)) (hq rfl) λE' T' y w' n al f c=>R p q n c f D (λ_=>al) C
   .have:p = !b:=(by cases p<;>cases b<;>simp_all);exact Yn body hb Z hst (.inl (by rw[D,this])) asp λT' y f _ c=>R p q (.refl E) c f D (λe'=>absurd e' e) C
end
theorem alS{p b:Bool}(h:¬p=b):p = !b:=by cases p<;>cases b<;>simp_all
mutual
def abW(g:Option (Nat×Bool))(seen D:List Nat):SOp->Bool
 |.op o=>decide (o.guard=g)&&o.reads.all (λt => !D.contains t)
 |.grp g' t b body d x=>decide (g'=g)&&(g.isNone ||seen.contains t) && !D.contains t && !(bU (SOp.flatL body)).contains t&&(match g with|some g1 => !(bU (SOp.flatL body)).contains g1.1|none=>true) &&
  x.tmps.all (λt => !(D++gds body).contains t)&&okG (some (t,b)) [] D body
def okG(g:Option (Nat×Bool))(seen D:List Nat):List SOp->Bool
 |[]=>true
 |s::r=>abW g seen D s&&(dt s).all (λd => !(D++gds [s]).contains d && !(gds r).contains d&&(match g with|some g1=>d != g1.1|none=>true))&&okG g (dt s++seen) (D++gds [s]) r
end
section
variable {P:Program}{L:List Blk}{K:Tm->List Blk->Prop}
def AR(P:Program)(K:Tm->List Blk->Prop)(l:List aw)(L:List Blk)(T:Tm):Prop:=AG P K (l.map λo=>(o,.read 0 0)) [L] [] T
theorem anI{T:Tm}(h:K T L):AR P K [] L T:=h
theorem YC{o:aw}{r:List aw}{T:Tm}{v:AV}(b:AQ P o T L v)(c:AR P K r L (di o.dst v T)):AR P K (o::r) L T:=by refine⟨v,λL' a=>?_,c⟩;simp at a;subst a;exact b
def Agr(D:List Nat)(T T1:Tm):Prop:=∀t,t∉D->ay T1 t=ay T t
theorem Agr.put{D:List Nat}{T T1:Tm}(h:Agr D T T1)(d:Option Nat)(v:AV):Agr D (di d v T) (di d v T1):=λt a=>by
 cases d with
 |none=>exact h t a
 |some d=>simp only[di,ay];split;rfl;exact h t a
theorem adx{d:Option Nat}{T:Tm}{t:Nat}(h:ay T t=some (.tup [])):ay (di d (.tup []) T) t=some (.tup []):=by
 cases d with
 |none=>exact h
 |some d=>simp only[di,ay];split;rfl;exact h
mutual
theorem al4(s:SOp){g:Nat×Bool}{seen D:List Nat}{rest:List aw}{T:Tm}(a:abW (some g) seen D s=true)(c:ay T g.1=some (.bool (!g.2))\/ay T g.1=some (.tup []))(h:∀d∈seen,ay T d=some (.tup []))(n:∀T',(∀t,t∉bU s.flat->ay T' t=ay T t)->(∀d,ay T d=some (.tup [])->ay T' d=some (.tup []))->(∀d∈dt s,ay T' d=some (.tup []))->AR P K rest L T'):AR P K (s.flat++rest) L T:=by
 have f:∀(o:aw) (T:Tm),o.guard=some g->(ay T g.1=some (.bool (!g.2))\/ay T g.1=some (.tup []))->AQ P o T L (.tup []):=λo T z c=>by obtain⟨t,b⟩:=g;simp only[AQ,z];rcases c with c|c<;>simp only at c<;>rw[c]<;>simp
 cases s with
 | op o =>
   simp only[abW,ao3,decide_eq_true_eq]at a;refine YC (f o T a.1 c) (n _ (λt m=>oW λe=>m (by simp[SOp.flat,bU,e])) (λd j=>adx j) λd j=>?_);simp only[dt,arQ]at j;rw[j];simp[di,ay]
 | grp g' t b body d x =>
   simp only[abW,ao3,decide_eq_true_eq,Option.isNone_some,aqg,apL,ap2,decide_eq_false_iff_not]at a;obtain⟨⟨⟨⟨⟨⟨l,m⟩,_⟩,w⟩,k⟩,_⟩,y⟩:=a;simp only[SOp.flat,apc];refine aag body y (.inr (h t (by simpa using m))) asp λT' p r=>?_
   refine YC (o:=eD g' t b d x) (v:=.tup []) (f _ T' (by simp[eD,l]) (by rw[p _ k];exact c)) (n _ (λu i=>?_) (λu i=>adx (r u i)) λu i=>?_)
   .rw[oW (λe=>i (by simp only[eD]at e;simp[SOp.flat,bU,eD,e]))];exact p u λq=>i (by simp only[SOp.flat,bU,aqa,ao5];exact .inl q)
   .simp only[dt,apr]at i;subst i;simp[eD,di,ay]
theorem aag(l:List SOp){g:Nat×Bool}{seen D:List Nat}{rest:List aw}{T:Tm}(f:okG (some g) seen D l=true)(u:ay T g.1=some (.bool (!g.2))\/ay T g.1=some (.tup []))(c:∀d∈seen,ay T d=some (.tup []))(q:∀T',(∀t,t∉bU (SOp.flatL l)->ay T' t=ay T t)->(∀d,ay T d=some (.tup [])->ay T' d=some (.tup []))->AR P K rest L T'):AR P K (SOp.flatL l++rest) L T:=by
 cases l with
 |nil=>exact q T (λ_ _=>rfl) (λ_ h=>h)
 | cons s r =>
   simp only[okG,ao3,apa,apL,bne_iff_ne]at f;obtain⟨⟨n,v⟩,A⟩:=f;simp only[SOp.flatL,apc];refine al4 s n u c λT' p m y=>?_
   have k:ay T' g.1=some (.bool (!g.2))\/ay T' g.1=some (.tup []):=by
    by_cases a:g.1∈bU s.flat
    .cases s with
     | op o =>
       simp only[bU,SOp.flat,arR,List.filterMap_nil]at a;cases e:o.dst with
       |none=>simp[e]at a
       | some d =>
         simp[e]at a;exact absurd a.symm (v d (by simp[dt,e])).2
     | grp g' t b body d x =>
       simp only[abW,ao3,apL,ap2,decide_eq_false_iff_not]at n;simp only[bU,SOp.flat,aqa,ao5]at a;rcases a with a|a
       .exact absurd a n.1.1.2
       .simp[eD]at a;exact absurd a.symm (v d (by simp[dt])).2
    .exact u.imp (λh=>by rw[p _ a];exact h) (m _)
   refine aag r A k (λd e=>?_) λj w z=>q j (λt i=>?_) (λd e=>z d (m d e))
   .rcases ao5.1 e with e|e
    .exact y d e
    .exact m d (c d e)
   .simp only[SOp.flatL,bU,aqa,ao5,not_or]at i;rw[w t i.2,p t i.1]
end
def Vr(l:List SOp):List Nat:=l.flatMap dt
theorem aa6:∀(l:List SOp),∀d∈Vr l,d∈bU (SOp.flatL l)
 |[],d,h=>by simp[Vr]at h
 |s::r,d,h=>by simp only[Vr,apD,ao5]at h;simp only[SOp.flatL,bU,aqa,ao5];exact h.imp (adf s d) (aa6 r d)
theorem anz{o:aw}{k:Tm->Prop}{T:Tm}(h:GOp P L o k T):∃v,AQv P o T L v/\k (di o.dst v T):=by
 obtain⟨d,op,gd⟩:=o;simp only[GOp]at h;unfold AQv;cases op
 case call f xs =>
  simp only at h⊢;cases he:jc T xs with
  |none=>rw[he]at h;exact h.elim
  |some args=>rw[he]at h;obtain⟨v,h1,h2⟩:=h;exact⟨v,h1,h2⟩
 case callv f xs =>
  simp only at h⊢;cases hf:evX T f with
  |none=>rw[hf]at h;exact h.elim
  | some u =>
    rw[hf]at h;cases he:jc T xs with
    |none=>rw[he]at h;cases u<;>exact h.elim
    | some args =>
      rw[he]at h;cases u<;>simp only[agu]at h;obtain⟨v,h1,h2⟩:=h;exact⟨v,h1,h2⟩
 all_goals
  simp only at h⊢;generalize au T L _=r at h⊢;cases r with
  |none=>exact h.elim
  | some r =>
    obtain⟨c,av,L'⟩:=r;exact⟨av,⟨h.1,rfl,h.2.1⟩,h.2.2⟩
mutual
theorem anm(s:SOp){g:Option (Nat×Bool)}{seen D:List Nat}{rest:List aw}{T T1:Tm}{k:Tm->Prop}(f:abW g seen D s=true)(Y:∀g1,g=some g1->g1.1∉D/\ay T g1.1=some (.bool g1.2))(J:∀d∈gds [s],ay T d=none)(E:Agr D T T1)(h:GO P L s k T)(S:∀T' B,k T'->Agr (D++gds [s]) T' B->(∀t,t∉dt s->ay T' t=ay T t)->AR P K rest L B):AR P K (s.flat++rest) L T1:=by
 cases s with
 | op o =>
   simp only[abW,ao3,decide_eq_true_eq,apa,apL,ap2,decide_eq_false_iff_not]at f;simp only[GO]at h;obtain⟨v,j,r⟩:=anz h;have m:AQ P o T L v:=by
    unfold AQ;rw[f.1];cases g with
    |none=>exact j
    | some g1 =>
      obtain⟨t,b⟩:=g1;have:=(Y _ rfl).2;simp only at this⊢;rw[this];simp[j]
   refine YC (m.congr λt F=>(E t (f.2 t F)).symm) (S _ _ r (λt F=>?_) λt F=>oW λe=>F (by simp[dt,e]));exact(E.put _ _) t λA=>F (aqh _ A)
 | grp g' t b body d x =>
   simp only[abW,ao3,decide_eq_true_eq,apa,apL,ap2,decide_eq_false_iff_not]at f;obtain⟨⟨⟨⟨⟨⟨w,_⟩,n⟩,O⟩,R⟩,N⟩,W⟩:=f;simp only[GO]at h;have G:∀u∈bU (SOp.flatL body),ay T u=none:=λu i=>J u (by simp[gds,i])
   have U:gds [SOp.grp g' t b body d x]=bU (SOp.flatL body):=(by simp[gds]);rw[U]at S;simp only[SOp.flat,apc];have C:∀{c:Tm}(p q:Bool),ay T t=some (.bool p)->(∀u,u∉D->u∉bU (SOp.flatL body)->ay c u=ay T u)->(p=b->evX c x=some (.bool q))->k ((d,.bool (mrg b p q))::T)->AR P K ([eD g' t b d x]++rest) L c:=λ{c} p q l M m H=>by
    have hv:au c L (.pick (.tmp t) (if b then x else .av (.bool true)) (if b then .av (.bool false)else x))=some (True,.bool (mrg b p q),L):=by have I:ay c t=some (.bool p):=(by rw[M t n O];exact l);cases b<;>cases p<;>simp[au,evX,I,mrg]<;>exact m rfl
    have z:AQv P (eD g' t b d x) c L (.bool (mrg b p q)):=by simp only[AQv,eD,hv,and_self]
    have m:AQ P (eD g' t b d x) c L (.bool (mrg b p q)):=by
     unfold AQ;cases g with
     |none=>simp only[eD,w];exact z
     | some g1 =>
       obtain⟨X,b1⟩:=g1;have j:=Y _ rfl;simp only[eD,w];rw[show ay c X=some (.bool b1)by rw[M X j.1 (by simpa using R)];exact j.2];simp;exact z
    refine YC m (S ((d,.bool (mrg b p q))::T) _ H (λu i=>?_) λu i=>?_)
    .simp only[ao5,not_or]at i;simp only[eD,di,ay];split
     .rfl
     .exact M u i.1 i.2
    .simp only[dt,apr]at i;simp only[ay];rw[if_neg (Ne.symm i)]
   rcases l:ay T t with _|u
   .rw[l]at h;exact h.elim
   rw[l]at h;cases u<;>try exact h.elim
   rename_i p;obtain⟨q,m,H⟩:=h;by_cases e:p=b
   .subst e;refine acy body W (λg1 e=>by cases e;exact⟨n,l⟩) (λu i=>G u (VE body u i)) E (m rfl) λZ c Q y V=>C p q l (λu j r=>?_) (λ_=>?_) H
    .rw[y u (by simp only[ao5,not_or];exact⟨j,λA=>r (VE body u A)⟩)];exact V u λA=>r (aa6 body u A)
    .have hxb':evX Z x=some (.bool q):=Q;rw[<- hxb'];cases x with
     |av a=>rfl
     |tmp t'=>exact y t' (by have:=N t' (by simp[Opd.tmps]);simpa using this)
   .have:p = !b:=alS e;refine aag body W (.inl (by show ay T1 t=_;rw[E t n,l,this])) asp λc j _=>C p q l (λu r h3=>?_) (λe'=>absurd e' e) H
    rw[j u h3,E u r]
theorem acy(l:List SOp){g:Option (Nat×Bool)}{seen D:List Nat}{rest:List aw}{T T1:Tm}{k:Tm->Prop}(j:okG g seen D l=true)(B:∀g1,g=some g1->g1.1∉D/\ay T g1.1=some (.bool g1.2))(a:∀d∈gds l,ay T d=none)(A:Agr D T T1)(h:GL P L l k T)(n:∀T' c,k T'->Agr (D++gds l) T' c->(∀t,t∉Vr l->ay T' t=ay T t)->AR P K rest L c):AR P K (SOp.flatL l++rest) L T1:=by
 cases l with
 | nil =>
   rw[GL]at h;exact n T T1 h (by simpa[gds]using A) (λ_ _=>rfl)
 | cons s r =>
   simp only[okG,ao3,apa,apL,ap2,decide_eq_false_iff_not]at j;obtain⟨⟨z,i⟩,I⟩:=j;have G:∀d∈dt s,d∉gds r:=λd f=>(i d f).1.2
   simp only[SOp.flatL,apc];rw[GL]at h;rw[VF]at a n;refine anm s z B (λd f=>a d (aqh _ f)) A h λT' c C H y=>?_
   refine acy r I (λg1 J=>?_) (λd f=>?_) H C λw m q F E=>n w m q (by rwa[apc]at F) λt v=>?_
   .subst J;have u:g1.1∉dt s:=λe=>by have:=(i _ e).2;simp at this
    have p:g1.1∉gds [s]:=λe=>by
     cases s with
     |op o=>simp[gds]at e
     | grp g' t b body d x =>
       simp only[abW,ao3,apL,ap2,decide_eq_false_iff_not]at z;simp only[gds,apG]at e;exact z.1.1.2 e
    have h4:=B g1 rfl;exact⟨by simp only[ao5,not_or];exact⟨h4.1,p⟩,by rw[y _ u];exact h4.2⟩
   .rw[y d (λe=>G d e f)];exact a d (aqP _ f)
   .simp only[Vr,apD,ao5,not_or]at v;rw[E t v.2,y t v.1]
end
theorem adi:∀(l:List SOp){g:Option (Nat×Bool)}{seen D:List Nat},okG g seen D l=true->∀t∈Vr l,t∉D++gds l
 |[],_,_,_,_,t,h=>by simp[Vr]at h
 | s::r,g,seen,D,hok,t,h=>by
   simp only[okG,ao3,apa,apL,ap2,decide_eq_false_iff_not]at hok;obtain⟨⟨c,b⟩,a⟩:=hok;rw[VF];simp only[Vr,apD,ao5]at h;rcases h with h|h
   .have:=(b t h).1;simp only[ao5,not_or]at this⊢;exact⟨this.1.1,this.1.2,this.2⟩
   .have:=adi r a t h;simp only[ao5,not_or]at this⊢;exact⟨this.1.1,this.1.2,this.2⟩
theorem ahM{l:List SOp}{T:Tm}{k:Tm->Prop}(b:okG none [] [] l=true)(a:Fr (gds l) T)(h:GL P L l k T):AR P (λT1 L'=>L'=L/\∃T',k T'/\∀t v,ay T' t=some v->ay T1 t=some v) (SOp.flatL l) L T:=by
 have:=acy (K:=λT1 L'=>L'=L/\∃T',k T'/\∀t v,ay T' t=some v->ay T1 t=some v) (rest:=[]) l b (λ_ e=>by cases e) a (T1:=T) (λ_ _=>rfl) h λT' j i g m=>anI ⟨rfl,T',i,λt v c=>?_⟩
 simpa using this;by_cases d:t∈gds l;by_cases f:t∈Vr l;exact absurd (by simpa using d) (adi l b t f);rw[m t f,a t d]at c;cases c;rw[g t (by simpa using d)];exact c
end
section
variable {P:Program}{r:Option Nat}{w0:World}{S0:SB}{N:Nat}
inductive bK where
 |skip
 |sreg (sops:List SOp) (mask:List Bool)
 |sdreg (sops:List SOp) (kds:List Kd) (mask:List Bool)
 |dregM (qk:List (aw×Kd)) (ts:List aw) (mask:List Bool)
 |region (ops:List aw)
 |dregion (qk:List (aw×Kd)) (ts:List aw)
 |seq (a b:bK)
 |cond (c:Opd) (a b:bK)
 |block (id:Nat) (c:bK)
 |loop (c:bK)
 |exit (id:Nat)
 |ret
 |rangeF (g:Opd) (ps:List Nat) (x y:bK)
 |scope (c:bK)
 |label
 deriving Inhabited
def bK.raw:bK->bK
 |.sreg s _=>.region (SOp.flatL s)
 |.dregM qk ts _=>.dregion qk ts
 |.sdreg s kds _=>.dregion ((SOp.flatL s).zip kds) ((SOp.flatL s).drop kds.length)
 |.seq a b=>.seq a.raw b.raw
 |.cond c a b=>.cond c a.raw b.raw
 |.block id c=>.block id c.raw
 |.loop c=>.loop c.raw
 |.rangeF g ps x y=>.rangeF g ps x.raw y.raw
 |.scope c=>.scope c.raw
 |c=>c
def bK.hasRF:bK->Bool
 |.seq a b=>a.hasRF ||b.hasRF
 |.cond _ a b=>a.hasRF ||b.hasRF
 |.block _ c=>c.hasRF
 |.loop c=>c.hasRF
 |.scope c=>c.hasRF
 |.rangeF ..=>true
 |_=>false
theorem bK.hasRF_raw:∀c:bK,c.raw.hasRF=c.hasRF
 |.seq a b=>by simp[bK.raw,bK.hasRF,hasRF_raw a,hasRF_raw b]
 |.cond c a b=>by simp[bK.raw,bK.hasRF,hasRF_raw a,hasRF_raw b]
 |.block _ c=>by simp[bK.raw,bK.hasRF,hasRF_raw c]
 |.loop c=>by simp[bK.raw,bK.hasRF,hasRF_raw c]
 |.scope c=>by simp[bK.raw,bK.hasRF,hasRF_raw c]
 |.rangeF ..=>rfl
 |.skip|.label|.sreg .. |.sdreg .. |.dregM .. |.region .. |.dregion .. |.exit .. |.ret=>rfl
def LOp.effB:LOp->Bool
 |.alloc _|.box _|.s2bO _|.s2bG _|.rangeS _|.nextS _|.store .. |.mkslice .. |.app .. |.appz .. |.copy .. |.clear .. |.mkmap|.mset .. |.mdel .. |.mrange _|.mnext _=>true
 |.bslice own ..=>own
 |_=>false
def an4(own:Nat->Nat)(i:Nat)(o:aw):Bool:=o.op.effB ||own i == 3
def am0(eff:Nat->aw->Bool)(tbl:List Nat)(es:List Nat)(i:Nat)(o:aw):Kd :=
 if o.op.pureB=true then .pure else if eff i o=true then .eff
 else .read (es.filter λe=>decide (e<i) && !(tbl.getD i 0).testBit e).length (es.filter λe=>decide (i<e) && !(tbl.getD e 0).testBit i).length
def ab8(eff:Nat->aw->Bool)(tbl:List Nat)(qs:List aw):List (aw×Kd):=
 let es:=(qs.zipIdx.filter λp=>eff p.2 p.1).map (·.2)
 qs.zipIdx.map λp=>(p.1,am0 eff tbl es p.2 p.1)
theorem adz(a:Nat->aw->Bool)(tbl:List Nat)(qs:List aw):(ab8 a tbl qs).map (·.1)=qs:=by simp[ab8,apq,Function.comp_def]
def ba(P:Program)(N:Nat)(own:Nat->Nat->Nat):Code->Option bK
 |.skip=>some .skip
 |.region id ops false=>(cQ P N (own id) ops (List.range ops.size)).map .region
 | .region id ops true=>(cQ P N (own id) ops (List.range ops.size)).bind fun los =>
   let n:=abz (ph ops.toList []) 0 los.length
   let qk:=ab8 (an4 (own id)) (ph ops.toList []) (los.take n)
   if(NF ops los n&&decide (n<=los.length)&&P.follows .mixedOrders&&Wh (ph ops.toList []) qk)=true then some (.dregion qk (los.drop n))else none
 | .seq a b=>match ba P N own a,ba P N own b with
   |some x,some y=>some (.seq x y)
   |_,_=>none
 | .cond c a b=>match bV c,ba P N own a,ba P N own b with
   |some c,some x,some y=>some (.cond c x y)
   |_,_,_=>none
 |.block id c=>(ba P N own c).map (.block id)
 |.loop c=>(ba P N own c).map .loop
 |.exit id=>some (.exit id)
 |.ret=>some .ret
 |.scope c=>(ba P N own c).map .scope
 |.label _=>some .label
 | .rangeFunc g ps x y=>match bV g,ba P N own x,ba P N own y with
   |some g,some x,some y=>if(!x.hasRF && !y.hasRF&&ps.all λp=>decide (p<N))=true then some (.rangeF g ps.toList x y)else none
   |_,_,_=>none
 |_=>none
structure Bs(w0:World)(S0:SB)(w1:World)(S1:SB):Prop where
 size:w0.heap.size<=w1.heap.size
 fr:∀k,k<w0.heap.size->¬S0 k->¬S1 k/\w1.heap[k]?=w0.heap[k]?
 sub:∀k,S1 k->S0 k\/w0.heap.size<=k
 os:w1.os=w0.os
 tape:w1.tape=w0.tape
 output:w1.output=w0.output
 low:S1.B=S0.B
theorem Bs.refl(w0:World)(S0:SB):Bs w0 S0 w0 S0:=⟨ao0 _,λ_ _ h=>⟨h,rfl⟩,λ_ h=>.inl h,rfl,rfl,rfl,rfl⟩
theorem Bs.trans{w0 c d:World}{S0 e f:SB}(h:Bs w0 S0 c e)(k:Bs c e d f):Bs w0 S0 d f :=
 ⟨apk h.size k.size,λi b l=>by
  obtain⟨a,j⟩:=h.fr i b l;obtain⟨g,h4⟩:=k.fr i (aqc b h.size) a;exact⟨g,h4.trans j⟩,λi b=>by
  rcases k.sub i b with a|a;exact h.sub i a;exact .inr (apk h.size a),k.os.trans h.os,k.tape.trans h.tape,k.output.trans h.output,k.low.trans h.low⟩
theorem Bs.rel{w0 g w:World}{S0 j:SB}(h:Bs w0 S0 g j){E:Env}{L:List Blk}(a:Rel g j E L w):Rel w0 S0 E L w :=
 ⟨a.mem,a.blk,a.fresh,λi k c d b e=>⟨(a.own i k c d b e).1,by
  rcases(a.own i k c d b e).2 with h4|h4;exact h.sub _ h4;exact .inr (apk h.size h4)⟩,a.inj,a.tkfresh,λi n sz t k d b e=>⟨(a.tkown i n sz t k d b e).1,by
  rcases(a.tkown i n sz t k d b e).2 with h4|h4;exact h.sub _ h4;exact .inr (apk h.size h4)⟩,a.tkloc,a.tkinj,λk f l=>by
  obtain⟨d,b⟩:=h.fr k f l;exact(a.frame k (aqc f h.size) d).trans b,apk h.size a.size,a.os.trans h.os,a.tape.trans h.tape,a.output.trans h.output,a.glob,a.gsz⟩
theorem Rel.ownSub{w0 w:World}{S0:SB}{E:Env}{L:List Blk}(f:Rel w0 S0 E L w)(k:Nat)(g:V1 E L k):S0 k\/w0.heap.size<=k:=by rcases g with⟨i,b,c,e,d,a,rfl⟩|⟨i,n,sz,t,c,e,d,a,rfl⟩;exact(f.own i b c e d a).2;exact(f.tkown i n sz t c e d a).2
theorem Rel.bs{w0 w:World}{S0:SB}{E:Env}{L:List Blk}(a:Rel w0 S0 E L w):Bs w0 S0 w ⟨V1 E L,S0.B⟩:=
 ⟨a.size,λk d b=>⟨λe=>by rcases a.ownSub k e with c|c;exact b c;omega,a.frame k d b⟩,a.ownSub,a.os,a.tape,a.output,rfl⟩
theorem ael.bs{w0 a:World}{S0 c:SB}{ds:List Deferred}(h:ael w0 S0 ds)(b:Bs w0 S0 a c):ael a c ds:=⟨by rw[b.low];exact apk h.1 b.size,h.2.1,λd k=>by obtain⟨D,l,i,e,j,h4⟩:=h.2.2 d k;obtain⟨f,g⟩:=b.fr D e j;exact⟨D,l,by rw[b.low];exact i,aqc e b.size,f,g.trans h4⟩⟩
def AW(P:Program)(N:Nat)(own:Nat->Nat->Nat)(lc:bK)(Q:Exit->Tm->List Blk->Prop)(T:Tm)(L:List Blk):Prop :=
 ∀c,ba P N own c=some lc.raw->∀(r:Option Nat),(lc.hasRF=true->r=none)->∀(w0:World) (S0:SB) (E:Env) (a:Act) (w:World),St w0 S0 N E T L a w ->
  c.wpIn (gT r) 0 P (λe a' w'=>∃w1 S1 E' T' L',Bs w0 S0 w1 S1/\E.le E'/\Q e T' L'/\St w1 S1 N E' T' L' a' w') a w
variable {own:Nat->Nat->Nat}{Q:Exit->Tm->List Blk->Prop}{T:Tm}{L:List Blk}
theorem AW.mono{lc:bK}{f:Exit->Tm->List Blk->Prop}(h:AW P N own lc Q T L)(i:∀e T L,Q e T L->f e T L):AW P N own lc f T L:=λc j r g w0 S0 E a w d =>
 wpIn_mono (h c j r g w0 S0 E a w d) λe p w' ⟨k,m,E',T',L',b,o,n,l⟩=>⟨k,m,E',T',L',b,o,i _ _ _ n,l⟩
theorem AW.weakT{lc:bK}{T':Tm}(h:AW P N own lc Q T' L)(g:∀t v,ay T' t=some v->ay T t=some v):AW P N own lc Q T L:=λc f r d w0 S0 E a w b =>
 h c f r d w0 S0 E a w (b.weak g rfl λ_ _ e=>.inr e)
theorem tA{c:Code}{x:bK}(d:ba P N own c=some x):match x with
  |.skip=>c=.skip
  |.exit id=>c=.exit id
  |.ret=>c=.ret
  |.label=>∃l,c=.label l
  |.seq x y=>∃g c2,c=.seq g c2/\ba P N own g=some x/\ba P N own c2=some y
  |.cond o x y=>∃c0 g c2,c=.cond c0 g c2/\bV c0=some o/\ba P N own g=some x/\ba P N own c2=some y
  |.block id x=>∃g,c=.block id g/\ba P N own g=some x
  |.loop x=>∃g,c=.loop g/\ba P N own g=some x
  |.scope x=>∃g,c=.scope g/\ba P N own g=some x
  |.region ops=>∃id os,c=.region id os false/\cQ P N (own id) os (List.range os.size)=some ops
  |.dregion qk ts=>∃id os e n,c=.region id os true/\cQ P N (own id) os (List.range os.size)=some e/\NF os e n=true/\n<=e.length/\P.follows .mixedOrders=true/\qk.map (·.1)=e.take n/\ts=e.drop n/\Wh (ph os.toList []) qk=true
  |_=>True:=by
 cases c with
 |skip=>cases d;rfl
 |ret=>cases d;rfl
 |exit id=>cases d;rfl
 |label l=>cases d;exact⟨_,rfl⟩
 |goto l=>cases d
 |refuse s=>cases d
 |block id c=>simp only[ba,apE]at d;obtain⟨_,h,rfl⟩:=d;exact⟨_,rfl,h⟩
 |loop c=>simp only[ba,apE]at d;obtain⟨_,h,rfl⟩:=d;exact⟨_,rfl,h⟩
 |scope c=>simp only[ba,apE]at d;obtain⟨_,h,rfl⟩:=d;exact⟨_,rfl,h⟩
 | seq a b => simp only [ba] at d; split at d <;> try (cases d; done)
              rename_i h i;cases d;exact⟨_,_,rfl,h,i⟩
 | cond k a b => simp only [ba] at d; split at d <;> try (cases d; done)
                 rename_i h i j;cases d;exact⟨_,_,_,rfl,h,i,j⟩
 | rangeFunc f ps a b =>
   simp only[ba]at d
   repeat' split at d
   all_goals cases d
   trivial
 | region id ops draw =>
   cases draw
   .simp only[ba,apE]at d;obtain⟨_,h,rfl⟩:=d;exact⟨_,_,rfl,h⟩
   .simp only[ba,aqC]at d;obtain⟨e,h,d⟩:=d;split at d
    .rename_i hb;simp only[ao3,decide_eq_true_eq]at hb;cases d;exact⟨_,_,e,_,rfl,h,hb.1.1.1,hb.1.1.2,hb.1.2,adz _ _ _,rfl,hb.2⟩
    .cases d
theorem ajo{c:Code}(a:ba P N own c=some .skip):c=.skip:=tA a
theorem ajq{c:Code}{id:Nat}(a:ba P N own c=some (.exit id)):c=.exit id:=tA a
theorem aly{c:Code}(a:ba P N own c=some .ret):c=.ret:=tA a
theorem age{c:Code}{x y:bK}(b:ba P N own c=some (.seq x y)):∃a c2,c=.seq a c2/\ba P N own a=some x/\ba P N own c2=some y:=tA b
theorem adD{c:Code}{o:Opd}{x y:bK}(b:ba P N own c=some (.cond o x y)):∃c0 a c2,c=.cond c0 a c2/\bV c0=some o/\ba P N own a=some x/\ba P N own c2=some y:=tA b
theorem ahi{c:Code}{id:Nat}{x:bK}(b:ba P N own c=some (.block id x)):∃a,c=.block id a/\ba P N own a=some x:=tA b
theorem ajp{c:Code}{x:bK}(b:ba P N own c=some (.loop x)):∃a,c=.loop a/\ba P N own a=some x:=tA b
theorem Sg{c:Code}{ops:List aw}(a:ba P N own c=some (.region ops)):∃id os,c=.region id os false/\cQ P N (own id) os (List.range os.size)=some ops:=tA a
theorem XF{c:Code}{qk:List (aw×Kd)}{ts:List aw}(b:ba P N own c=some (.dregion qk ts)):∃id os a n,c=.region id os true/\cQ P N (own id) os (List.range os.size)=some a/\NF os a n=true/\n<=a.length/\P.follows .mixedOrders=true/\qk.map (·.1)=a.take n/\ts=a.drop n/\Wh (ph os.toList []) qk=true:=tA b
theorem jQ{b:Frame}{a:Act}{k:List Item}{cs:List Frame}{w:World}{c:Code}:step P (lone (b.atR a (.code (.scope c)::k)) cs w)=.next (lone (b.atR a (.code c :: .inScope c::k)) cs w):=
 step_lone_go (by simp[stepG,stepG.exec,Frame.atR])
theorem aau{b:Frame}{a:Act}{k:List Item}{cs:List Frame}{w:World}{c:Code}:step P (lone (b.atR a (.inScope c::k)) cs w)=.next (lone (b.atR a k) cs w):=
 step_lone_go (by simp[stepG,stepG.exec,Frame.atR])
theorem aeu{F:Fence}{n:Nat}{a:Act}{w:World}{Q:Exit->Act->World->Prop}{c:Code}(h:c.wpIn F n P (Exit.noGoto Q) a w):(Code.scope c).wpIn F n P Q a w:=by
 intro b k cs p r m;have g:(lone (b.atR a (.code (.scope c)::k)) cs w).fenced P F:=fenced_calm r m rfl;obtain⟨e,i,j,f,d⟩:=h b (.inScope c::k) cs p r m;cases e with
 |normal=>exact⟨.normal,i,j,f,.head g jQ (StepsIn.trans d (.one (fenced_calm r m rfl) aau))⟩
 | exit id =>
   have s:exitTo id (.inScope c::k)=exitTo id k:=(by simp[exitTo]);exact⟨.exit id,i,j,f,λk' o=>.head g jQ (d.1 k' (by rw[s];exact o)),
    λq o=>let ⟨k₁,h1,h2⟩:=d.2 q (by rw[s];exact o);⟨k₁,h1,.head g jQ h2⟩⟩
 |goto l=>exact f.elim
 |ret=>exact⟨_,i,j,f,.of_steps (.one g jQ) d⟩
 |panic ch=>exact⟨_,i,j,f,.of_steps (.one g jQ) d⟩
 |outgrown=>exact⟨_,i,j,f,.of_steps (.one g jQ) d⟩
theorem bm(h:Q .normal T L):AW P N own .skip Q T L:=λc d r e w0 S0 E a w b=>by obtain rfl:=ajo d;exact wpIn_skip ⟨w0,S0,E,T,L,.refl _ _,.refl E,h,b⟩
theorem bw{id:Nat}(h:Q (.exit id) T L):AW P N own (.exit id) Q T L:=λc d r e w0 S0 E a w b=>by obtain rfl:=ajq d;exact wpIn_exit ⟨w0,S0,E,T,L,.refl _ _,.refl E,h,b⟩
theorem bP(h:Q .ret T L):AW P N own .ret Q T L:=λc d r e w0 S0 E a w b=>by obtain rfl:=aly d;exact wpIn_ret ⟨w0,S0,E,T,L,.refl _ _,.refl E,h,b⟩
def aei(K:Tm->List Blk->Prop)(Q:Exit->Tm->List Blk->Prop):Exit->Tm->List Blk->Prop
 |.normal,T,L=>K T L
 |e,T,L=>Q e T L
theorem bH{x y:bK}(h:AW P N own x (aei (AW P N own y Q) Q) T L):AW P N own (.seq x y) Q T L:=λc hc r hr w0 S0 E a w hst=>by
 obtain⟨c1,c2,rfl,h1,h2⟩:=age hc;refine wpIn_seq (wpIn_mono (h c1 h1 r (λe=>hr (by simp[bK.hasRF,e])) w0 S0 E a w hst) λe a' w' ⟨w1,S1,E',T',L',b,g1,g2,g3⟩=>?_);cases e
 case normal=>exact wpIn_mono (g2 c2 h2 r (λe=>hr (by simp[bK.hasRF,e])) w1 S1 E' a' w' g3) λe a'' w'' ⟨w2,S2,E'',T'',L'',b2,k1,k2,k3⟩=>⟨w2,S2,E'',T'',L'',b.trans b2,g1.trans k1,k2,k3⟩
 all_goals exact⟨w1,S1,E',T',L',b,g1,g2,g3⟩
theorem be{x:Opd}{y z:bK}{b:Bool}(h:evX T x=some (.bool b))(j:b=true->AW P N own y Q T L)(l:b=false->AW P N own z Q T L):AW P N own (.cond x y z) Q T L:=λc g r f w0 S0 E a w d=>by obtain⟨c0,m,c2,rfl,n,k,i⟩:=adD g;have:=aq n h d.2.1;simp only[VR]at this;exact wpIn_cond_split this (λe=>j e m k r (λe=>f (by simp[bK.hasRF,e])) w0 S0 E a w d) (λe=>l e c2 i r (λe=>f (by simp[bK.hasRF,e])) w0 S0 E a w d)
def afz(id:Nat)(Q:Exit->Tm->List Blk->Prop):Exit->Tm->List Blk->Prop
 |.exit id',T,L=>if id'=id then Q .normal T L else Q (.exit id') T L
 |e,T,L=>Q e T L
theorem aB{x:Opd}{y z:bK}(i:evX T x=some .anyb)(j:AW P N own y Q T L)(m:AW P N own z Q T L):AW P N own (.cond x y z) Q T L:=λc h r g w0 S0 E a w d=>by obtain⟨c0,n,c2,rfl,k,o,l⟩:=adD h;have f:=aq k i d.2.1;simp only[VR]at f;obtain⟨b,f⟩:=f;exact wpIn_cond_split f (λ_=>j n o r (λe=>g (by simp[bK.hasRF,e])) w0 S0 E a w d) (λ_=>m c2 l r (λe=>g (by simp[bK.hasRF,e])) w0 S0 E a w d)
theorem aV{id:Nat}{x:bK}(h:AW P N own x (afz id Q) T L):AW P N own (.block id x) Q T L:=λc hc r hr w0 S0 E a w hst=>by
 obtain⟨c1,rfl,h1⟩:=ahi hc;refine wpIn_block (wpIn_mono (h c1 h1 r (λe=>hr (by simp[bK.hasRF,e])) w0 S0 E a w hst) λe a' w' ⟨w1,S1,E',T',L',b,g1,g2,g3⟩=>?_);cases e
 case exit i =>
  simp only[afz]at g2;simp only[Exit.inBlock];split at g2
  .rename_i e;rw[if_pos e];exact⟨w1,S1,E',T',L',b,g1,g2,g3⟩
  .rename_i e;rw[if_neg e];exact⟨w1,S1,E',T',L',b,g1,g2,g3⟩
 all_goals exact⟨w1,S1,E',T',L',b,g1,g2,g3⟩
def acD(Q:Exit->Tm->List Blk->Prop):Exit->Tm->List Blk->Prop
 |.goto _,_,_=>False
 |e,T,L=>Q e T L
theorem akp:acD Q .normal T L=Q .normal T L:=rfl
theorem akq{i:Nat}:acD Q (.exit i) T L=Q (.exit i) T L:=rfl
theorem ako:acD Q .ret T L=Q .ret T L:=rfl
attribute [push_cast] akp akq ako
theorem aQ{x:bK}(h:AW P N own x (acD Q) T L):AW P N own (.scope x) Q T L:=λc hc r hr w0 S0 E a w hst=>by
 obtain⟨c1,rfl,h1⟩:=tA hc;refine aeu (wpIn_mono (h c1 h1 r (λe=>hr (by simp[bK.hasRF,e])) w0 S0 E a w hst) λe a' w' ⟨w1,S1,E',T',L',b,g1,g2,g3⟩=>?_);cases e
 case goto l=>exact g2.elim
 all_goals exact⟨w1,S1,E',T',L',b,g1,g2,g3⟩
theorem aR(h:Q .normal T L):AW P N own .label Q T L:=λc d r e w0 S0 E a w b=>by obtain⟨l,rfl⟩:=tA d;exact wpIn_label ⟨w0,S0,E,T,L,.refl _ _,.refl E,h,b⟩
theorem aco(p:Nat->Prop):∀n,p n->∃m,p m/\∀k,p k->m<=k:=by
 intro n;induction n using Nat.strongRecOn with
 | _ n ih =>
   intro c;by_cases h:∃k,k<n/\p k
   .obtain⟨k,a,h2⟩:=h;exact ih k a h2
   .refine⟨n,c,λk b=>?_⟩;rcases apt k n with a|a
    .exact absurd ⟨k,a,b⟩ h
    .exact a
theorem St.draw{E:Env}{a:Act}{w:World}{T:Tm}{L:List Blk}(h:St w0 S0 N E T L a w)(n:Nat):St w0 S0 N E T L a {w with drawn:=n}:=⟨h.1.draw n,h.2⟩
theorem aat{qk:List (aw×Kd)}{ts:List aw}(h:AG P (nj P (Q .normal) ts) qk [L] [] T):AW P N own (.dregion qk ts) Q T L:=λc k r u w0 S0 E a w b=>by
 obtain⟨id,os,s,n,rfl,p,q,v,h4,g,rfl,m⟩:=XF k;refine wpIn_region_any h4 ?_;have o:qk.length=n:=by have:=congrArg List.length g;simp at this;omega
 exact aec (w0:=w0) (S0:=S0) (L:=L) (T:=T) (Q:=λe i w'=>∃d f E' T' L',Bs w0 S0 d f/\E.le E'/\Q e T' L'/\St d f N E' T' L' i w') (K:=Q .normal) (E0:=E) p q (by rw[g,aqy]) o m h (λE' T' L' i w' j t l=>⟨w0,S0,E',T',L',.refl _ _,j,t,l⟩) a _ E (.refl E) (b.draw _)
def amL(mask:List Bool)(T:Tm):Bool:=(mask.zip T).all λp=>p.1 ||(ay (sel mask T) p.2.1).isNone
theorem YN:∀{a:List Bool}{T:Tm}{t:Nat}{v:AV},(∀p∈a.zip T,p.1=true\/p.2.1≠t)->ay (sel a T) t=some v->ay T t=some v
 |[],T,t,v,_,h=>by rwa[afU]at h
 |true::m,[],t,v,_,h=>by simp[sel,ay]at h
 |false::m,[],t,v,_,h=>by simp[sel,ay]at h
 | true::m,x::T,t,v,hm,h=>by
   obtain⟨k,u⟩:=x;rw[ami]at h;simp only[ay]at h⊢;split
   .rename_i e;rw[if_pos e]at h;exact h
   .rename_i e;rw[if_neg e]at h;exact YN (λp b=>hm p (by simp only[List.zip_cons_cons,apn];exact .inr b)) h
 | false::m,x::T,t,v,hm,h=>by
   obtain⟨k,u⟩:=x;rw[amj]at h;have c:k≠t:=by
    rcases hm (false,(k,u)) asp with h|h
    .cases h
    .exact h
   simp only[ay];rw[if_neg c];exact YN (λp b=>hm p (by simp only[List.zip_cons_cons,apn];exact .inr b)) h
theorem Ob{a:List Bool}{T:Tm}{t:Nat}{v:AV}(c:amL a T=true)(h:ay (sel a T) t=some v):ay T t=some v :=
 YN (λp d=>by
  have:=apa.1 c p d;rcases Bool.or_eq_true_iff.1 this with b|b;exact .inl b;refine .inr λe=>?_
  rw[e,h]at b;cases b) h
def aan(mask:List Bool)(K:Tm->List Blk->Prop)(T:Tm)(L:List Blk):Prop:=amL mask T=true/\K (sel mask T) L
theorem bp{a:List Bool}{K:Tm->List Blk->Prop}{T:Tm}{L:List Blk}(b:amL a T=true)(c:K (sel a T) L):aan a K T L:=⟨b,c⟩
def frB(ds:List Nat)(T:Tm):Bool:=ds.all λd=>(ay T d).isNone
theorem bv{b:List SOp}{f:List Bool}(i:(okS b&&frB (gds b) T)=true)(h:SL P b (aan f (Q .normal)) T L):AW P N own (.sreg b f) Q T L:=λc k r p w0 S0 E a w g=>by obtain⟨id,os,rfl,o⟩:=Sg k;rw[ao3]at i;refine wpIn_region (JR b i.1 o g (λd m=>?_) h λE' T' L' q w' n j h4=>⟨w0,S0,E',sel f T',L',.refl _ _,n,j.2,h4.weak (λt v l=>Ob j.1 l) rfl λ_ _ e=>.inr e⟩);have:=apa.1 i.2 d m;simpa using this
def ant(mask:List Bool)(K:Tm->List Blk->Prop)(L:List Blk)(T:Tm):Prop:=aan mask K T L
theorem al7{a:List Bool}{K:Tm->List Blk->Prop}{T:Tm}{L:List Blk}:ant a K L T=aan a K T L:=rfl
theorem aP{b:List SOp}{kds:List Kd}{f:List Bool}(D:(okG none [] [] b&&frB (gds b) T&&decide (kds.length<=(SOp.flatL b).length))=true)(h:GL P L b (ant f (Q .normal) L) T):AW P N own (.sdreg b kds f) Q T L:=λc V r hr w0 S0 E a w s=>by
 obtain⟨id,os,g,n,rfl,H,C,h3,h4,G,J,_⟩:=XF V;simp only[ao3,decide_eq_true_eq]at D;obtain⟨⟨M,X⟩,f3⟩:=D;have q:g=SOp.flatL b:=by
  have y:((SOp.flatL b).zip kds).map (·.1)=(SOp.flatL b).take kds.length:=by
   have key:∀(l:List aw) (m:List Kd),(l.zip m).map (·.1)=l.take m.length:=by
    intro l;induction l with
    |nil=>intro m;simp
    |cons o l ih=>intro m;cases m<;>simp[ih]
   exact key _ _
  rw[y]at G;rw[<- aqy n g,<- G,<- J,aqy]
 have F:g.length=os.size:=by simpa using(EL H).1
 refine wpIn_region_any h4 ?_;have j:NF os g g.length=true:=by simp only[NF,ao3]at C⊢;refine⟨C.1,?_⟩;simp only[afs,apa,List.mem_range,apN,decide_eq_true_eq];exact λi hi=>.inl aso
 have x:=ahM (P:=P) (L:=L) M (T:=T) (λd R=>by have:=apa.1 X d R;simpa using this) h
 refine aec (w0:=w0) (S0:=S0) (L:=L) (T:=T) (Q:=λe I w'=>∃A B E' T' L',Bs w0 S0 A B/\E.le E'/\Q e T' L'/\St A B N E' T' L' I w') (E0:=E) (qk:=g.map λo=>(o,.read 0 0)) (ts:=[]) H j (by simp[apq,Function.comp_def]) asp ?_ (K:=λT1 L'=>L'=L/\∃T',ant f (Q .normal) L T'/\∀t v,ay T' t=some v->ay T1 t=some v)
  ?_ (λE' T' L' I w' y ⟨Z,Y,z,W⟩ U=>?_) a _ E (.refl E) (s.draw _)
 have u:∀(l:List aw) (k:Nat),fc (l.map λo=>(o,Kd.read 0 0)) k=[]:=by
  intro l;induction l with
  |nil=>intro k;rfl
  |cons o l ih=>intro k;simp only[apv,fc];exact ih _
 simp only[Wh,u,apJ,List.range_zero,aq1,apy,apa];intro p S;obtain⟨⟨o,kd⟩,i⟩:=p;have:kd=Kd.read 0 0:=by have:=List.fst_mem_of_mem_zipIdx S;simp only[ao6]at this;obtain⟨o',_,e⟩:=this;cases e;rfl
 subst this;rfl;rw[q];exact x;subst Z;exact⟨w0,S0,E',sel f Y,_,.refl _ _,y,z.2,U.weak (λt v O=>W t v (Ob z.1 O)) rfl λ_ _ e=>.inr e⟩
theorem aS{qk:List (aw×Kd)}{ts:List aw}{d:List Bool}(h:AG P (nj P (aan d (Q .normal)) ts) qk [L] [] T):AW P N own (.dregM qk ts d) Q T L:=λc i r g w0 S0 E a w f=>by
 have:=aat (N:=N) (own:=own) (Q:=λe T' L'=>e=.normal/\aan d (Q .normal) T' L') (L:=L) (T:=T) (qk:=qk) (ts:=ts) (P:=P) ?_ c i r g w0 S0 E a w f;refine wpIn_mono this λe n w' ⟨j,l,E',T',L',b,g1,⟨m,g3⟩,g4⟩=>?_
 subst m;exact⟨j,l,E',sel d T',L',b,g1,g3.2,g4.weak (λt v k=>Ob g3.1 k) rfl λ_ _ e=>.inr e⟩;have e:(λT' L'=>Exit.normal=Exit.normal/\aan d (Q .normal) T' L')=aan d (Q .normal):=by funext T' L';simp
 rw[e];exact h
theorem aH{ops:List aw}(h:nj P (Q .normal) ops T L):AW P N own (.region ops) Q T L:=λc d r i w0 S0 E a w b=>by obtain⟨id,os,rfl,g⟩:=Sg d;exact wpIn_region (SJ _ _ g b h λE' T' L' j w' f e h4=>⟨w0,S0,E',T',L',.refl _ _,f,e,h4⟩)
end
inductive afA where
 |tmp (t:Nat)
 |cell (agg:Bool) (sz t:Nat)
 deriving Inhabited
structure aK where
 ntmps:Nat
 code:bK
 res:List afA
 deriving Inhabited
def aK.raw(f:aK):aK:=⟨f.ntmps,f.code.raw,f.res⟩
def Sd(P:Program):List ResultVar->Option (List afA)
 |[]=>some []
 |.tmp t::l=>(Sd P l).map (.tmp t::·)
 | .cell a t::l=>match m9 P t,dr P t,Sd P l with
   |some g,some s,some m=>some (.cell g s a::m)
   |_,_,_=>none
def aL(P:Program)(own:Nat->Nat->Nat)(f:FuncId):Option aK :=
 match P.funcs[f]? with
 |none=>none
 | some fn=>if (fn.name == "runtime.NumGoroutine")=true then none else match fn.body with
   |none=>none
   | some c=>match ba P fn.ntmps own c,Sd P fn.results.toList with
     |some lc,some rs=>some ⟨fn.ntmps,lc,rs⟩
     |_,_=>none
def YP(T:Tm)(L:List Blk):List afA->Option (Prop×List AV)
 |[]=>some (True,[])
 | .tmp t::l=>match ay T t,YP T L l with
   |some v,some (c,m)=>some (c,v::m)
   |_,_=>none
 | .cell g sz t::l=>match (ay T t).bind (row L),YP T L l with
   |some (r,off),some (c,m)=>if g then some (off+sz<=r.length/\c,.agg ((r.drop off).take sz)::m)else some (off<r.length/\c,r.getD off .undef::m)
   |_,_=>none
def ac4:List AV->AV
 |[v]=>v
 |l=>.tup l
def ag(i:Nat):List AV->Tm
 |[]=>[]
 |a::l=>(i,a)::ag (i+1) l
section
variable {P:Program}{w0:World}{S0:SB}{N:Nat}{E:Env}{L:List Blk}{w:World}{T:Tm}{a:Act}
theorem Td:∀{rs:List ResultVar}{f:List afA}{c:Prop}{m:List AV},Sd P rs=some f->YP T L f=some (c,m)->c->Rel w0 S0 E L w->TR E T a ->
  ∃vs,VRL E m vs/\(rs.mapM (m:=Sem) fun
   |.tmp t=>pure (a.tmps.getD t undef)
   |.cell x t=>do loadVar t (<- asAddr (a.tmps.getD x undef))).run P w=.ok vs w
 |[],f,c,m,hl,he,hc,hR,hT=>by simp[Sd]at hl;subst hl;simp[YP]at he;obtain⟨_,rfl⟩:=he;exact⟨[],by simp[VRL],asp⟩
 | .tmp t::rs,f,c,m,hl,he,hc,hR,hT=>by
   simp only[Sd,apE]at hl;obtain⟨B,k,rfl⟩:=hl;simp only[YP]at he;split at he<;>try cases he
   rename_i v c' F h i;obtain⟨vs,h4,n⟩:=Td k i hc hR hT;exact⟨_::vs,⟨_,_,rfl,hT _ _ h,h4⟩,by simp only[arM,ao7,apF,ao9,n]⟩
 | .cell x t::rs,f,c,m,hl,he,hc,hR,hT=>by
   simp only[Sd]at hl;split at hl<;>try cases hl
   rename_i g s B D J k;simp only[YP]at he;split at he<;>try cases he
   rename_i r off c' F h i;rcases h6:ay T x with _|u
   .simp_all
   .simp only[h6,aqf]at h;have I:=hT _ _ h6;obtain⟨b,o,G,d⟩:=V7 hR h I;have A:(asAddr (a.tmps.getD x undef)).run P w=.ok ⟨b,o+off,none⟩ w:=(by rw[G];rfl);cases g
    .obtain⟨rfl,rfl⟩:=he;obtain⟨vs,h4,n⟩:=Td k i hc.2 hR hT;obtain⟨y,p,C⟩:=d off r[off] (ao8 hc.1);refine⟨y::vs,⟨_,_,rfl,by rw[apo,ao8 hc.1];exact C,h4⟩,?_⟩;have q:(loadVar t ⟨b,o+off,none⟩).run P w=.ok y w:=(by simp[loadVar,Eh D,p]);simp_all
    .obtain⟨rfl,rfl⟩:=he;obtain⟨vs,h4,n⟩:=Td k i hc.2 hR hT;have e:((r.drop off).take s).length=s:=(by simp;omega);obtain⟨cs,p,C⟩:=XE (P:=P) (w:=w) (b:=b) (o:=o+off) (l:=(r.drop off).take s) D (by rw[e];exact J) (λj a z=>by have H:j<s:=(by have:=(aoZ.1 z).1;omega);rw[ap5 H,apY]at z;have:=d _ _ z;rwa[<- ap7]at this)
     refine⟨.agg ⟨cs⟩::vs,⟨_,_,rfl,⟨cs,rfl,p⟩,h4⟩,?_⟩;simp_all
theorem aiK{m:List AV}{vs:List Value}(h:VRL E m vs):VR E (ac4 m) (if h:vs.length=1 then vs[0]else .tuple ⟨vs⟩):=by
 have a:=h.length;by_cases b:vs.length=1
 match m,vs,h,a,b with
 | [x],[y],h,_,_ =>
   obtain⟨_,_,⟨rfl,rfl⟩,c,_⟩:=h;exact c
 rw[dif_neg b];have:ac4 m=.tup m:=by
  match m,a with
  |[],_=>rfl
  |[x],a=>simp at a;exact absurd a b
  |_::_::_,_=>rfl
 rw[this];exact⟨vs,rfl,h⟩
theorem Zm:∀{args:List AV}{i t:Nat}{v:AV},ay (ag i args) t=some v->i<=t/\args[t-i]?=some v
 |[],i,t,v,h=>by simp[ag,ay]at h
 | x::args,i,t,v,h=>by
   simp only[ag,ay]at h;split at h
   .simp[*]
   .rename_i e;have:=Zm h
    grind
def Fin(L0:List Blk)(r:AV)(L:List Blk)(Q:AV->List Blk->Prop):Prop :=
 ∀(w0:World) (S0:SB) (E0 E:Env) (w:World) (v:Value),E0.le E->(∀i,L0.length<=i->E0.loc i=none/\E0.tok i=none)->(∀k∈L0,k.refs (λi=>decide (i<L0.length))=true) ->
  Rel w0 S0 E L w->VR E r v->∃E' av L',E0.le E'/\Q av L'/\VR E' av v/\Rel w0 S0 E' L' w
mutual
theorem VR.refs{n:Nat}(g:∀i,n<=i->E.loc i=none)(j:∀i,n<=i->E.tok i=none):∀(a:AV) (v:Value),VR E a v->a.refs (λi=>decide (i<n))=true
 |.undef,_,_=>rfl
 |.bool _,_,_=>rfl
 |.anyb,_,_=>rfl
 |.int _ _,_,_=>rfl
 |.str _,_,_=>rfl
 |.nilptr,_,_=>rfl
 |.gptr _ _,_,_=>rfl
 | .ptr i off,v,r=>by
   simp only[VR]at r;obtain⟨c,h,_⟩:=r;simp only[AV.refs,decide_eq_true_eq];rcases apt i n with e|e
   .exact e
   .rw[g i e]at h;cases h
 |.iptr l off,v,r=>by simp only[VR]at r;obtain⟨b,o,_,h⟩:=r;exact VRC.refs g j l b o h
 |.nilsl,_,_=>rfl
 | .sl l m cap,v,r=>by
   simp only[VR]at r;obtain⟨p,c,_,_,_,h⟩:=r;rcases h with⟨_,_,_,rfl⟩|⟨b,o,_,h⟩
   .rfl
   .exact VRC.refs g j l b o h
 | .gsl l m i sz,v,r=>by
   simp only[VR]at r;obtain⟨p,c,_,_,_,h,t,k,_⟩:=r;simp only[AV.refs,decide_eq_true_eq,ao3];refine⟨?_,?_⟩
   .rcases apt i n with e|e
    .exact e
    .rw[j i e]at k;cases k
   .rcases h with⟨_,_,_,rfl⟩|⟨b,o,_,h⟩
    .rfl
    .exact VRC.refs g j l b o h
 | .lsl i off len cap sz,v,r=>by
   simp only[VR]at r;obtain⟨c,q,d,h,_⟩:=r;simp only[AV.refs,decide_eq_true_eq];rcases apt i n with e|e
   .exact e
   .rw[g i e]at h;cases h
 |.nilmap,_,_=>rfl
 | .lmap i,v,r=>by
   simp only[VR]at r;obtain⟨c,h,_⟩:=r;simp only[AV.refs,decide_eq_true_eq];rcases apt i n with e|e
   .exact e
   .rw[g i e]at h;cases h
 | .yld i,v,r=>by
   simp only[VR]at r;obtain⟨c,h,_⟩:=r;simp only[AV.refs,decide_eq_true_eq];rcases apt i n with e|e
   .exact e
   .rw[g i e]at h;cases h
 |.func f caps,v,r=>by simp only[VR]at r;obtain⟨vs,_,h⟩:=r;exact VRL.refs g j caps vs h
 |.nilfunc,_,_=>rfl
 |.nilif,_,_=>rfl
 |.iface t x,v,r=>by simp only[VR]at r;obtain⟨y,_,h⟩:=r;exact VR.refs g j x y h
 |.agg l,v,r=>by simp only[VR]at r;obtain⟨vs,_,h⟩:=r;exact VRL.refs g j l vs h
 |.tup l,v,r=>by simp only[VR]at r;obtain⟨vs,_,h⟩:=r;exact VRL.refs g j l vs h
theorem VRL.refs{n:Nat}(b:∀i,n<=i->E.loc i=none)(c:∀i,n<=i->E.tok i=none):∀(l:List AV) (vs:List Value),VRL E l vs->AV.refsL (λi=>decide (i<n)) l=true
 |[],_,_=>rfl
 |a::l,vs,r=>by simp only[VRL]at r;obtain⟨x,xs,_,e,d⟩:=r;simp only[AV.refsL,ao3];exact⟨VR.refs b c a x e,VRL.refs b c l xs d⟩
theorem VRC.refs{n:Nat}(c:∀i,n<=i->E.loc i=none)(d:∀i,n<=i->E.tok i=none):∀(l:List AV) (b o:Nat),VRC E l b o->AV.refsL (λi=>decide (i<n)) l=true
 |[],_,_,_=>rfl
 |a::l,b,o,r=>by simp only[VRC]at r;obtain⟨⟨x,_,f⟩,e⟩:=r;simp only[AV.refsL,ao3];exact⟨VR.refs c d a x f,VRC.refs c d l b (o+1) e⟩
end
theorem aI.refs{n:Nat}(a:∀i,n<=i->E.loc i=none)(c:∀i,n<=i->E.tok i=none):∀{l:List (AV×AV×Nat)}{es:List MapEntry},aI E l es->(l.all λe=>e.1.refs (λi=>decide (i<n))&&e.2.1.refs (λi=>decide (i<n)))=true
 |[],_,_=>rfl
 |(k,x,b)::l,es,r=>by simp only[aI]at r;obtain⟨e,t,_,g,f,_,d⟩:=r;simp only[aqd,ao3];exact⟨⟨VR.refs a c _ _ g,VR.refs a c _ _ f⟩,aI.refs a c d⟩
theorem Rel.refs(h:Rel w0 S0 E L w):∀k∈L,k.refs (λi=>decide (i<L.length))=true:=λk n=>by
 obtain⟨i,p⟩:=aqN.1 n;have e:=h.blk i k p;cases k<;>simp only[bZ]at e;rfl;obtain⟨c,cs,ty,fr,_,_,_,_,b,_⟩:=e;refine AV.refsL_iff.2 λa f=>?_
 obtain⟨j,g⟩:=aqN.1 f;obtain⟨v,_,l⟩:=b j a g;exact VR.refs h.fresh h.tkfresh _ _ l;obtain⟨c,rs,_,_,o⟩:=e;exact aI.refs h.fresh h.tkfresh o;rename_i m _ _ _;obtain⟨c,q,_,_,_,h4⟩:=e;cases m with
 |none=>rfl
 | some j =>
   obtain⟨d,g1,_⟩:=h4;simp only[Blk.refs,decide_eq_true_eq];rcases apt j L.length with b|b
   .omega
   .rw[h.fresh j b]at g1;cases g1
 rfl;obtain⟨c,cs,ty,fr,_,_,_,_,b,_⟩:=e;refine AV.refsL_iff.2 λa f=>?_
 obtain⟨j,g⟩:=aqN.1 f;obtain⟨v,_,l⟩:=b j a g;exact VR.refs h.fresh h.tkfresh _ _ l;rfl;obtain⟨c,D,tm,_,_,_,_,b⟩:=e;simp only[Blk.refs,apa];rintro⟨t,u⟩ _;rcases hl:ay _ t with _|v;rfl;simpa using VR.refs h.fresh h.tkfresh _ _ (b t v hl)
def anG(res:List afA)(L0:List Blk)(Q:AV->List Blk->Prop)(e:Exit)(T:Tm)(L':List Blk):Prop :=
 (e=.normal\/e=.ret)/\∃c rs,YP T L' res=some (c,rs)/\c/\Fin L0 (ac4 rs) L' Q
theorem Rel.shut{w0 w:World}{S0:SB}{E:Env}{L:List Blk}(h:Rel w0 S0 E L w){D:Nat}(A:w0.heap.size<=D)(f:¬V1 E L D)(u:w.heap[D]?=some (.deferred (some []))):Rel w0 S0 E L (w.putObj D (.deferred none)):=by
 have same:∀k,k≠D->(w.putObj D (.deferred none)).heap[k]?=w.heap[k]?:=λk a=>arw a
 refine⟨λb o v m=>?_,λi k a=>?_,h.fresh,h.own,h.inj,h.tkfresh,h.tkown,h.tkloc,h.tkinj,λk a r=>?_,by simpa using h.size,h.os,h.tape,h.output,h.glob,λp s g=>?_⟩;have d:=h.mem b o v m;have z:b≠D:=λe=>by subst e;simp[World.cell?,u]at d
 simp only[World.cell?]at d⊢;simp_all;cases hl:k.live;refine bZ.still hl rfl (λt c n sz e q j=>?_) (h.blk i k a);exact same _ λl=>f (.inr ⟨i,n,sz,t,c,e▸a,q,j,l⟩)
 refine bZ.worldL hl (λc j=>?_) (h.blk i k a);exact same _ λl=>f (.inl ⟨i,k,c,a,hl,j,l⟩)
 rw[same k aso];exact h.frame k a r;obtain⟨cs,ty,fr,x,y⟩:=h.gsz p s g
 grind
theorem aaV{fn:Func}{tmps:Array Value}{R:Ending->World->Prop}{wE:World}{SE:SB}{E:Env}{L:List Blk}(c:∀w,Rel wE SE E L w->∃v,(results fn tmps).run P w=.ok v w/\R (.returned v) w):
  ∀(ds:List Deferred) (w:World),Rel wE SE E L w->ds.Nodup->(∀d∈ds,∃D,d=mkD D/\wE.heap.size<=D/\¬V1 E L D/\w.heap[D]?=some (.deferred (some [])))->LeavesInM (gT none) 0 P fn tmps R ds .returning w
 |[],w,h,_,_=>c w h
 |d::ds,w,h,hn,hd=>by obtain⟨D,rfl,m,g,b⟩:=hd _ List.mem_cons_self;obtain⟨k,j⟩:=aqi.1 hn;refine⟨λe=>(by cases e),.inl ⟨D,_,rfl,run_takeDeferred b,aaV c ds _ (h.shut m g b) j λd a=>?_⟩⟩;obtain⟨l,rfl,i,f,n⟩:=hd d (aqu _ a);refine⟨l,rfl,i,f,?_⟩;rw[arw λe=>k (by subst e;exact a)];omega
theorem ab{own:Nat->Nat->Nat}{f:FuncId}{j:aK}(h:aL P own f=some j.raw){args:List AV}{L:List Blk}{Q:AV->List Blk->Prop}(o:args.length<=j.ntmps)(G:AW P j.ntmps own j.code (anG j.res L Q) (ag 0 args) L):af P f args L Q:=by
 intro w0 S0 E w vs l I;obtain⟨nt,code,Y⟩:=j;simp only[aK.raw]at h o G;unfold aL at h;split at h;cases h;rename_i fn k;split at h;cases h;rename_i a;split at h;cases h;rename_i c H;split at h<;>try cases h
 rename_i lc rs z C;refine .inl ⟨?_,?_⟩;have:(fn.name == "runtime.NumGoroutine")=false:=by simpa using a
 simp only[callFunc,ao7,run_program,ao9,k,this,H,Option.isNone_some,apj,if_false,apF];refine(callsIn_wide (n:=0)).1 (callsIn_of_wp_marks (F:=gT none) k H trivial ?_);have V:=I.length;have q:St w ⟨V1 E L,w.heap.size⟩ fn.ntmps E (ag 0 args) L {tmps:=(⟨vs⟩:Array Value)++Array.replicate (fn.ntmps-vs.length) undef,defers:=[]} w:=by refine⟨l.enter _,λt x X=>?_,by simp;omega,ael.nil (ao0 _)⟩;obtain⟨_,p⟩:=Zm X;simp only[aq2]at p;obtain⟨y,A,M⟩:=I.get p;have s:t<vs.length:=(aoZ.1 A).1;rw[aqv,arS (by simpa using s)];simp[*]
 refine wpIn_mono (G c z none (λ_=>rfl) w _ E _ w q) λe B w' ⟨w1,S1,E',T',L',b,g1,⟨Z,c',O,g3,g4,g5⟩,g⟩=>?_
 have key:LeavesInM (gT none) 0 P fn B.tmps (λe w'=>∃E' v av L',e=.returned v/\E.le E'/\Q av L'/\VR E' av v/\Rel w0 S0 E' L' w') B.defers .returning w':=by
  refine aaV (wE:=w) (SE:=⟨V1 E L,w.heap.size⟩) (E:=E') (L:=L') (λu m=>?_) _ _ (b.rel g.1) g.2.2.2.2.1 λd W=>?_
  obtain⟨us,U,R⟩:=Td C g3 g4 m g.2.1;obtain⟨ad,av,T,k3,k4,k5,k6⟩:=g5 w0 S0 E E' u _ g1 (λi J=>⟨l.fresh i J,l.tkfresh i J⟩) l.refs (l.back m) (aiK U);have K:(results fn B.tmps).run P u=.ok (if h:us.length=1 then us[0]else .tuple ⟨us⟩) u:=by unfold results;rw[Array.mapM_eq_mapM_toList];simp only[ao7,Sem.run_map];refine(congrArg (λr=>(Result.andThen r λx w=>Result.ok x.toArray w).andThen _) R).trans ?_;simp
  grind
  obtain⟨D,p,N,A,M,h4⟩:=g.2.2.2.2.2 d W;refine⟨D,p,by rw[b.low]at N;exact N,λho=>?_,?_⟩;rcases g.1.ownSub D ho with S|S;simp_all;omega;rw[g.1.frame D A M];exact h4
 rcases Z with rfl|rfl<;>exact key
theorem aa{L0 L:List Blk}{r:AV}{Q:AV->List Blk->Prop}(h:Q r L):Fin L0 r L Q:=λw0 S0 E0 E w v b _ _ c a=>⟨E,r,L,b,h,a,c⟩
theorem aeE{E0 E:Env}{n m:Nat}(d:E0.le E)(k:∀i,n<=i->E0.loc i=none/\E0.tok i=none)(l:n<=m)(g:Nat->Nat)(h:∀i,i<n->g i=i):E0.le (E.res m g):=by
 have lt:∀i,(E0.loc i≠none\/E0.tok i≠none)->i<n:=λi a=>by grind
 refine⟨λb o x j=>d.mem b o x j,λi c e=>?_,λi t f=>?_⟩;have a:=lt i (.inl (by simp[e]));rw[Env.res_loc aso,h i a];exact d.loc i c e;have a:=lt i (.inr (by simp[f]));rw[Env.res_tok aso,h i a];exact d.tok i t f
theorem aap{L0 L1 L2:List Blk}{r:AV}{Q:AV->List Blk->Prop}(q:L1.length=L0.length)(e:(∀k∈L0,k.refs (λi=>decide (i<L0.length))=true)->∀k∈L1,k.refs (λi=>decide (i<L0.length))=true)(d:r.refs (λi=>decide (i<L0.length))=true)(h:Q r L1):Fin L0 r (L1++L2) Q:=λw0 S0 E0 E w v n j g o l=>by
 have a:=o.cut (by rw[q];exact e g);refine⟨E.res L1.length id,r,L1,aeE n j aso id (λ_ _=>rfl),h,VR.cut (E:=E) (E':=E.res L1.length id) (p:=λi=>decide (i<L0.length)) (λ_ _ _ x=>x) (λi c b f=>?_) (λi t b m=>?_) r v d l,a⟩
 .rw [Env.res_loc (by have : i < L0.length := by simpa using b
                      omega)];exact f
 .rw [Env.res_tok (by have : i < L0.length := by simpa using b
                      omega)];exact m
theorem aY{L0 L:List Blk}{r:AV}{Q:AV->List Blk->Prop}(h:Fin L0 r.frz L Q):Fin L0 r L Q:=λw0 S0 E0 E w v d b a e c =>
 h w0 S0 E0 E w v d b a e (VR.frz _ _ c)
theorem akv{res:List afA}{L0 L':List Blk}{T:Tm}{Q:AV->List Blk->Prop}{c:Prop}{rs:List AV}(h:YP T L' res=some (c,rs))(a:c)(b:Fin L0 (ac4 rs) L' Q):anG res L0 Q .ret T L':=⟨.inr rfl,c,rs,h,a,b⟩
theorem ac{L0 L2:List Blk}{r:AV}{Q:AV->List Blk->Prop}(a:r.refs (λi=>decide (i<L0.length))=true)(h:Q r L0):Fin L0 r (L0++L2) Q :=
 aap rfl (λh=>h) a h
mutual
def AV.snap(i:Nat)(l:List AV):AV->AV
 |.lsl j off n cap s=>if j=i then .sl ((l.drop off).take (n*s)) n cap else .lsl j off n cap s
 |.agg xs=>.agg (AV.snapL i l xs)
 |.tup xs=>.tup (AV.snapL i l xs)
 |a=>a
def AV.snapL(i:Nat)(l:List AV):List AV->List AV
 |[]=>[]
 |a::xs=>AV.snap i l a::AV.snapL i l xs
end
mutual
theorem VR.snap{i:Nat}{l:List AV}{c:Loc}(g:E.loc i=some c)(h:VRC E l c.blk c.off):∀(a:AV) (v:Value),VR E a v->VR E (a.snap i l) v
 | .lsl j off n cap s,v,r=>by
   simp only[AV.snap];split
   .rename_i e;subst e;simp only[VR]at r⊢;obtain⟨c',o,d,b,rfl,f,m,h4,p⟩:=r;rw[g]at b;cases b;refine⟨_,o,rfl,m,h4,.inr ⟨c.blk,d,rfl,?_⟩⟩;rcases aqp n with k|k
    .subst k;simp[VRC]
    .rw[f aso];exact(h.drop off).take _
   .exact r
 |.agg xs,v,r=>by simp only[AV.snap,VR]at r⊢;obtain⟨vs,b,f⟩:=r;exact⟨vs,b,VRL.snap g h xs vs f⟩
 |.tup xs,v,r=>by simp only[AV.snap,VR]at r⊢;obtain⟨vs,b,f⟩:=r;exact⟨vs,b,VRL.snap g h xs vs f⟩
 |.undef,_,r=>r
 |.bool _,_,r=>r
 |.anyb,_,r=>r
 |.int _ _,_,r=>r
 |.str _,_,r=>r
 |.nilptr,_,r=>r
 |.gptr _ _,_,r=>r
 |.ptr _ _,_,r=>r
 |.iptr _ _,_,r=>r
 |.nilsl,_,r=>r
 |.sl _ _ _,_,r=>r
 |.gsl _ _ _ _,_,r=>r
 |.nilmap,_,r=>r
 |.lmap _,_,r=>r
 |.yld _,_,r=>r
 |.func _ _,_,r=>r
 |.nilfunc,_,r=>r
 |.nilif,_,r=>r
 |.iface _ _,_,r=>r
theorem VRL.snap{i:Nat}{l:List AV}{c:Loc}(d:E.loc i=some c)(b:VRC E l c.blk c.off):∀(xs:List AV) (vs:List Value),VRL E xs vs->VRL E (AV.snapL i l xs) vs
 |[],_,r=>r
 |a::xs,vs,r=>by simp only[AV.snapL,VRL]at r⊢;obtain⟨x,e,h,g,f⟩:=r;exact⟨x,e,h,VR.snap d b a x g,VRL.snap d b xs e f⟩
end
theorem EC{L0 L:List Blk}{r:AV}{Q:AV->List Blk->Prop}{i:Nat}{l:List AV}(a:L[i]?=some (.cells l))(h:Fin L0 (r.snap i l) (L.set i .dead) Q):Fin L0 r L Q:=λw0 S0 E0 E w v j f e b g=>by obtain⟨c,cs,ty,fr,d,_⟩:=b.blk i _ a;obtain⟨E',g1,k,g3,g4⟩:=b.snap a d;exact h w0 S0 E0 E' w v (j.trans g1) f e k (VR.snap (by rw[g4];exact d) g3 _ _ (VR.mono g1 _ _ g))
theorem amc{L0 L2:List Blk}{r:AV}{Q:AV->List Blk->Prop}(k:Nat)(b:Blk)(S:b.live=true)(hk:L0.length<=k)(V:(L0++L2)[k]?=some b)(W:r.refs (λi=>decide (i<L0.length) ||decide (i=k))=true)(F:b.refs (λi=>decide (i<L0.length))=true)(h:Q (r.ren λi=>if i=k then L0.length else i) (L0++[b])):Fin L0 r (L0++L2) Q:=λw0 S0 E0 E w v Z Y X T P=>by
 have I:(L0++[b]).length=L0.length+1:=asp;have hg:∀i,i<L0.length->(λi=>if i<L0.length then i else k) i=i:=λi s=>if_pos s
 have C:∀i c,(decide (i<L0.length) ||decide (i=k))=true->E.loc i=some c->(E.res (L0++[b]).length (λi=>if i<L0.length then i else k)).loc (if i=k then L0.length else i)=some c:=by intro i c s l;by_cases e:i=k;subst e;rw[if_pos rfl,Env.res_loc aso,if_neg aso];exact l;simp only[e,decide_false,aq3,decide_eq_true_eq]at s;rw[if_neg e,Env.res_loc aso,if_pos s];exact l
 have M:∀i c,(decide (i<L0.length) ||decide (i=k))=true->E.tok i=some c->(E.res (L0++[b]).length (λi=>if i<L0.length then i else k)).tok (if i=k then L0.length else i)=some c:=by intro i c s l;by_cases e:i=k;subst e;rw[if_pos rfl,Env.res_tok aso,if_neg aso];exact l;simp only[e,decide_false,aq3,decide_eq_true_eq]at s;rw[if_neg e,Env.res_tok aso,if_pos s];exact l
 have low:∀(i:Nat) (c:Blk),(L0++[b])[i]?=some c->(i<L0.length/\L0[i]?=some c)\/(i=L0.length/\c=b):=λi c l=>by grind
 have J:=T.renum (L':=L0++[b]) (λi=>if i<L0.length then i else k) (λi j s f e=>by
  rw[I]at s f;split at e<;>split at e<;>omega) (λi n sz s=>by
  rcases low i _ s with⟨A,B⟩|⟨A,B⟩;rw[if_pos A,ao4 A];exact B;subst B;simp[Blk.live]at S) (λi c l g=>by
  rcases low i _ l with⟨A,B⟩|⟨A,B⟩;have U:(L0++L2)[i]?=some c:=(by rw[ao4 A];exact B);refine⟨c,by rw[if_pos A];exact U,g,?_⟩;refine bZ.cut (E:=E) (E':=E.res (L0++[b]).length (λi=>if i<L0.length then i else k)) (p:=λi=>decide (i<L0.length)) (λ_ _ _ x=>x) (λj c f l=>?_) (λj c f l=>?_) (λc l=>?_) g (X c (apR B)) (T.blk i c U);have f:j<L0.length:=(by simpa using f);rw[Env.res_loc aso,if_pos f];exact l;have f:j<L0.length:=(by simpa using f);rw[Env.res_tok aso,if_pos f];exact l;rw[Env.res_loc aso,if_pos A];exact l;subst A;subst B;refine⟨c,by simpa using V,g,?_⟩;have G:=T.blk k _ V;have o:∀d,E.loc k=some d->(E.res (L0++[c]).length (λi=>if i<L0.length then i else k)).loc L0.length=some d:=λd z=>by have:=C k d asp z;rwa[if_pos rfl]at this
  have u:∀x v,x.refs (λi=>decide (i<L0.length))=true->VR E x v->VR (E.res (L0++[c]).length (λi=>if i<L0.length then i else k)) x v:=λx v L P=>by refine VR.cut (E:=E) (E':=E.res (L0++[c]).length (λi=>if i<L0.length then i else k)) (p:=λi=>decide (i<L0.length)) (λ_ _ _ x=>x) (λj d f z=>?_) (λj d f z=>?_) x v L P;have f:j<L0.length:=(by simpa using f);rw[Env.res_loc aso,if_pos f];exact z;have f:j<L0.length:=(by simpa using f);rw[Env.res_tok aso,if_pos f];exact z
  cases c<;>simp only[Blk.live,apj]at g<;>simp only[bZ,Blk.refs]at G F⊢;obtain⟨d,cs,ty,fr,g1,y,g3,g4,N,R⟩:=G;exact⟨d,cs,ty,fr,o d g1,y,g3,g4,λj a K=>let ⟨x,O,H⟩:=N j a K;⟨x,O,u a x (AV.refsL_iff.1 F a (apR K)) H⟩,R⟩;obtain⟨d,rs,g1,y,g3⟩:=G;refine⟨d,rs,o d g1,y,?_⟩;refine aI.cut (E:=E) (E':=E.res (L0++[_]).length (λi=>if i<L0.length then i else k)) (p:=λi=>decide (i<L0.length)) (λ_ _ _ x=>x) (λj d f z=>?_) (λj d f z=>?_) F g3;have f:j<L0.length:=(by simpa using f);rw[Env.res_loc aso,if_pos f];exact z;have f:j<L0.length:=(by simpa using f);rw[Env.res_tok aso,if_pos f];exact z;rename_i m _ _ _;obtain⟨d,q,g1,y,g3,g4⟩:=G;refine⟨d,q,o d g1,y,g3,?_⟩;cases m with
  |none=>exact g4
  | some j =>
    obtain⟨d',O,H⟩:=g4;have f:j<L0.length:=(by simpa[Blk.refs]using F);exact⟨d',by rw[Env.res_loc aso,if_pos f];exact O,H⟩
  obtain⟨d,g1,y⟩:=G;exact⟨d,o d g1,y⟩;obtain⟨d,cs,ty,fr,g1,y,g3,g4,N,R⟩:=G;exact⟨d,cs,ty,fr,o d g1,y,g3,g4,λj a K=>let ⟨x,O,H⟩:=N j a K;⟨x,O,u a x (AV.refsL_iff.1 F a (apR K)) H⟩,R⟩;obtain⟨d,D,tm,g1,y,g3,g4,N⟩:=G;simp only[apa]at F;exact⟨d,D,tm,o d g1,y,g3,g4,λt x L=>u x _ (by simpa[L]using F (t,x) (Nw L)) (N t x L)⟩)
 exact⟨E.res (L0++[b]).length (λi=>if i<L0.length then i else k),_,_,aeE Z Y aso _ hg,h,VR.ren (E:=E) (E':=E.res (L0++[b]).length (λi=>if i<L0.length then i else k)) (p:=λi=>decide (i<L0.length) ||decide (i=k)) (λ_ _ _ x=>x) C M r v W P,J⟩
end
theorem Yv(L:List α)(x:α)(l:List α):(L++x::l)[L.length]?=some x:=asp
theorem nu(L l:List α)(k:Nat):(L++l)[L.length+k]?=l[k]?:=by grind
theorem ak1(L:List α)(x y:α)(l:List α):(L++x::l).set L.length y=L++y::l:=by simp
theorem ak0(L l:List α)(k:Nat)(y:α):(L++l).set (L.length+k) y=L++l.set k y:=by simp
theorem al6(L l m:List α):(L++l)++m=L++(l++m):=apc _ _ _
theorem ae{n:Int}(b : -9223372036854775808<=n)(a:n<9223372036854775808):IntKind.i64.wrap n=n:=by simp only[IntKind.wrap,IntKind.bits,IntKind.signed];simp;omega
theorem aoV(j:Nat)(h:j<9223372036854775807):IntKind.i64.wrap ((j:Int)+1)=(j:Int)+1:=ae aso aso
theorem dw{n:Int}(b:0<=n)(a:n<256):IntKind.u8.wrap n=n:=by simp only[IntKind.wrap,IntKind.bits,IntKind.signed];simp;omega
theorem ED{n:Int}(b:0<=n)(a:n<18446744073709551616):IntKind.u64.wrap n=n:=by simp only[IntKind.wrap,IntKind.bits,IntKind.signed];simp;omega
theorem aT{P:Program}{N:Nat}{own:Nat->Nat->Nat}{Q:Exit->Tm->List Blk->Prop}{T:Tm}{L:List Blk}{x:Opd}{y z:bK}(a:evX T x=some (.bool true))(h:AW P N own y Q T L):AW P N own (.cond x y z) Q T L :=
 be a (λ_=>h) (λe=>by cases e)
theorem aU{P:Program}{N:Nat}{own:Nat->Nat->Nat}{Q:Exit->Tm->List Blk->Prop}{T:Tm}{L:List Blk}{x:Opd}{y z:bK}(a:evX T x=some (.bool false))(h:AW P N own z Q T L):AW P N own (.cond x y z) Q T L :=
 be a (λe=>by cases e) (λ_=>h)
def aow(v:AV)(xs:List Int):Prop:=(v=.nilsl/\xs=[])\/∃cap,v=.sl (xs.map (AV.int .i64)) xs.length cap
theorem agW{p:Nat->Bool}(xs:List Int):AV.refsL p (xs.map (AV.int .i64))=true:=AV.refsL_iff.2 λa b=>by obtain⟨x,_,rfl⟩:=ao6.1 b;rfl
theorem aow.refs{p:Nat->Bool}{xs:List Int}(h:aow v xs):v.refs p=true:=by rcases h with⟨rfl,_⟩|⟨cap,rfl⟩;rfl;exact agW xs
theorem abl{xs:List Int}{k:Nat}(h:k<xs.length):(xs.map (AV.int .i64)).getD k .undef=.int .i64 xs[k]:=by simp[h]
theorem aE{p:Prop}[Decidable p]{A B:Prop}(b:p->A)(a:¬p->B):if p then A else B:=by simp_all
theorem aA{p:Prop}[Decidable p]{A B:Prop}(b:p->B)(a:¬p->A):if ¬p then A else B:=by simp_all
def amv(L0 L':List Blk)(Q:AV->List Blk->Prop):Option (Prop×List AV)->Prop
 |some (c,rs)=>c/\Fin L0 (ac4 rs) L' Q
 |none=>False
theorem afE{L0:List Blk}{Q:AV->List Blk->Prop}{c:Prop}{rs:List AV}:amv L0 L' Q (some (c,rs))=(c/\Fin L0 (ac4 rs) L' Q):=rfl
theorem aG{res:List afA}{L0:List Blk}{T:Tm}{Q:AV->List Blk->Prop}(h:amv L0 L' Q (YP T L' res)):anG res L0 Q .ret T L':=by rcases hr:YP T L' res with _|⟨c,rs⟩;rw[hr]at h;exact h.elim;rw[hr]at h;exact akv hr h.1 h.2
def Hid(p:Prop):Prop:=p
theorem hid{p:Prop}(h:p):Hid p:=h
theorem Hid.o{p:Prop}(h:Hid p):p:=h
theorem Kto{K:AV->List Blk->Prop}{L:List Blk}{a b:AV}(h:K a L)(e:a=b):K b L:=e▸h
def aaL(T' T:Tm):Prop:=∀p∈T',∃v,ay T p.1=some v/\(p.2=v\/p.2=v.frz)
theorem TR.sub{E:Env}{T:Tm}{a:Act}(r:TR E T a)(h:aaL T' T):TR E T' a:=λt v c=>by obtain⟨u,d,b⟩:=h _ (Nw c);have:=r t u d;rcases b with b|b;simp_all;simp only at b;subst b;exact VR.frz _ _ this
theorem aeg{T:Tm}:aaL [] T:=λp h=>by cases h
theorem On{T:Tm}{t:Nat}{u:AV}(h:ay T t=some u)(e:v=u)(b:aaL T' T):aaL ((t,v)::T') T:=λp a=>by rcases apn.1 a with rfl|a;simp[*];exact b p a
theorem aam{T:Tm}{t:Nat}{u:AV}(h:ay T t=some u)(e:v=u.frz)(b:aaL T' T):aaL ((t,v)::T') T:=λp a=>by rcases apn.1 a with rfl|a;simp[*];exact b p a
def Cut(B:Nat)(T':Tm)(L':List Blk)(T:Tm)(L:List Blk):Prop :=
 aaL T' T/\∃X,L=L'++X/\B<=L'.length/\(X=[]\/((∀p∈T',p.2.refs (λi=>decide (i<L'.length))=true)/\∀k∈L',k.refs (λi=>decide (i<L'.length))=true))
theorem aeq{T:Tm}{L:List Blk}(h:aaL T' T)(a:B<=L.length):Cut B T' L T L:=⟨h,[],asp,a,.inl rfl⟩
theorem CutS{B:Nat}{T' T:Tm}{L:List Blk}(a:aaL T' T:=by repeat' first|exact aeg|refine On rfl rfl ?_|refine aam rfl rfl ?_)(b:B<=L.length):Cut B T' L T L:=aeq a b
theorem CutL{B:Nat}{T' T:Tm}{L:List Blk}(a:aaL T' T:=by repeat' first|exact aeg|refine On rfl rfl ?_|refine aam rfl rfl ?_|refine On rfl (congrArg (AV.int _) aso) ?_|refine On rfl (by first|(simp_all;done)|(simp_all;omega)|(simp_all;intros;omega)) ?_)(b:B<=L.length):Cut B T' L T L:=aeq a b
abbrev aoX:=@af Tryz.prog
abbrev aoY:=AV->List Blk->Prop
abbrev Ctr(P:Program)(f:FuncId)(A:List AV)(v:AV):Prop:=∀{L:List Blk}{K:AV->List Blk->Prop},K v L->af P f A L K
theorem asv{P:Program}{f:FuncId}{A:List AV}{v:AV}(h:Ctr P f A v):Hid (Ctr P f A v):=hid h
abbrev o0(x:LOp):SOp:=.op ⟨none,x,none⟩
abbrev o1(n:Nat)(x:LOp):SOp:=.op ⟨some n,x,none⟩
abbrev og(n t:Nat)(b:Bool)(x:LOp):SOp:=.op ⟨some n,x,some (t,b)⟩
abbrev od(n:Nat)(x:LOp)(k:Kd):aw×Kd:=(⟨some n,x,none⟩,k)
abbrev tm(t:Nat):Opd:=.tmp t
abbrev iv(n:Int):Opd:=.av (.int .i64 n)
attribute [push_cast] o0 o1 og od tm iv
abbrev ash(x:List SOp)(m:List Bool)(r:bK):bK:=.seq (.sreg x m) r
abbrev asi(t:Nat)(a b:bK):bK:=.cond (.tmp t) a b
abbrev asj(t:Nat)(a:bK):bK:=.cond (.tmp t) (.seq a .ret) .skip
abbrev ask(n:Nat)(a:bK):bK:=.block n (.loop a)
abbrev asl(t n:Nat):bK:=.cond (.tmp t) .skip (.exit n)
attribute [push_cast] ash asi asj ask asl
noncomputable abbrev asm(n:Nat):=aL Tryz.prog (λ_ _=>1) n
abbrev asn(c:aK):=some c.raw
abbrev Aa(a b:Nat):SOp:=.op ⟨some a,(.mv (.tmp b)),none⟩
abbrev Ab(a b c:Nat):SOp:=.op ⟨some a,(.load false b (.tmp c)),none⟩
abbrev Ac(a:Nat)(b:Int):SOp:=.op ⟨some a,(.mv (.av (.int .i64 b))),none⟩
abbrev Ad(a b c:Nat):SOp:=.op ⟨some a,(.faddr b (.tmp c)),none⟩
abbrev Ae(a b c:Nat):SOp:=.op ⟨some a,(.mv (.tmp c)),some (b,true)⟩
abbrev Af(a:Nat):SOp:=.op ⟨some a,(.mv (.av (.bool false))),none⟩
abbrev Ag(a b c:Nat):SOp:=.op ⟨some a,(.mv (.tmp c)),some (b,false)⟩
abbrev Ah(a b:Nat):SOp:=.op ⟨some a,(.len false (.tmp b)),none⟩
abbrev Ai(a b:Nat)(c:Int):SOp:=.op ⟨some a,(.bin .add (.tmp b) (.av (.int .i64 c))),none⟩
abbrev Aj(a b c:Nat):SOp:=.op ⟨some a,(.call b [(.tmp c)]),none⟩
abbrev Ak(a:Nat):SOp:=.op ⟨some a,(.mv (.av (.sl [] 0 (some 0)))),none⟩
abbrev Al(a b c:Nat):SOp:=.op ⟨some a,(.bin .lss (.tmp b) (.tmp c)),none⟩
abbrev Am(a b c d:Nat):SOp:=.op ⟨some a,(.iaddr b (.tmp c) (.tmp d)),none⟩
abbrev An(a b:Nat)(c:Int):SOp:=.op ⟨some a,(.bin .eql (.tmp b) (.av (.int .i64 c))),none⟩
abbrev Ao(a b:Nat):SOp:=.op ⟨some a,(.extract (.tmp b) 0),none⟩
abbrev Ap(a b c:Nat):SOp:=.op ⟨none,(.store a (.tmp b) (.tmp c)),none⟩
abbrev Aq(a b:Nat):SOp:=.op ⟨some a,(.extract (.tmp b) 1),none⟩
abbrev Ar(a b c d:Nat):SOp:=.op ⟨some a,(.call b [(.tmp c),(.tmp d)]),none⟩
abbrev As(a b c:Nat):SOp:=.op ⟨some a,(.load true b (.tmp c)),none⟩
abbrev Au(a b:Nat):SOp:=.op ⟨some a,(.nilchk (.tmp b)),none⟩
abbrev Aw(a:Nat):SOp:=.op ⟨some a,(.mv (.av (.str []))),none⟩
abbrev Ax(a b:Nat):SOp:=.op ⟨some a,(.len true (.tmp b)),none⟩
abbrev Ay(a b:Nat):SOp:=.op ⟨some a,(.box (.tmp b)),none⟩
abbrev Az(a b c d:Nat):SOp:=.op ⟨some a,(.faddr c (.tmp d)),some (b,true)⟩
abbrev A0(a b c d:Nat):SOp:=.op ⟨some a,(.load false c (.tmp d)),some (b,true)⟩
abbrev A3(a b:Nat):SOp:=.op ⟨some a,(.un .not (.tmp b)),none⟩
abbrev A5(a:Nat):SOp:=.op ⟨some a,(.mv (.av (.bool true))),none⟩
abbrev A6(a b c d:Nat):SOp:=.op ⟨some a,(.load false c (.tmp d)),some (b,false)⟩
abbrev A7(a b:Nat)(c:Int):SOp:=.op ⟨some a,(.bin .gtr (.tmp b) (.av (.int .i64 c))),none⟩
abbrev A8(a b c d:Nat):SOp:=.op ⟨some a,(.faddr c (.tmp d)),some (b,false)⟩
abbrev A9(a b c:Nat):aw×Kd:=(⟨some a,(.faddr b (.tmp c)),none⟩,.pure)
abbrev AA(a b c d e:Nat):aw×Kd:=(⟨some a,(.load false b (.tmp c)),none⟩,(.read d e))
abbrev AB(a b:Nat)(c:Int):SOp:=.op ⟨some a,(.bin .neq (.tmp b) (.av (.int .i64 c))),none⟩
abbrev AC(a b c:Nat)(d:Int):SOp:=.op ⟨some a,(.bin .gtr (.tmp c) (.av (.int .i64 d))),some (b,false)⟩
abbrev AD(a b:Nat):aw×Kd:=(⟨some a,(.mv (.tmp b)),none⟩,.pure)
abbrev AE(a b c:Nat):SOp:=.op ⟨some a,(.len false (.tmp c)),some (b,true)⟩
abbrev AF(a b c d e:Nat):SOp:=.op ⟨some a,(.call b [(.tmp c),(.tmp d),(.tmp e)]),none⟩
abbrev AH(a b c:Nat):SOp:=.op ⟨some a,(.bin .eql (.tmp b) (.tmp c)),none⟩
abbrev AI(a b c:Nat)(d:Int):SOp:=.op ⟨some a,(.bin .eql (.tmp c) (.av (.int .i64 d))),some (b,false)⟩
abbrev AJ(a b:Nat)(c:Int):SOp:=.op ⟨some a,(.bin .lss (.tmp b) (.av (.int .i64 c))),none⟩
abbrev AK(a b c:Nat):SOp:=.op ⟨some a,(.idxS (.tmp b) (.tmp c)),none⟩
abbrev AL(a b:Nat)(c:Int):SOp:=.op ⟨some a,(.bin .geq (.tmp b) (.av (.int .i64 c))),none⟩
abbrev AM(a b c d:Nat):SOp:=.op ⟨some a,(.call c [(.tmp d)]),some (b,false)⟩
abbrev AN(a b c d e:Nat):SOp:=.op ⟨some a,(.call c [(.tmp d),(.tmp e)]),some (b,true)⟩
abbrev AO(a b c:Nat)(d:Int):SOp:=.op ⟨some a,(.bin .eql (.tmp c) (.av (.int .i64 d))),some (b,true)⟩
abbrev AP(a b c d:Nat):aw×Kd:=(⟨some a,(.nilchk (.tmp b)),none⟩,(.read c d))
abbrev AS(a b c:Nat):SOp:=.op ⟨some a,(.len false (.tmp c)),some (b,false)⟩
abbrev AT(a:Nat):SOp:=.op ⟨some a,(.mv (.av .nilptr)),none⟩
abbrev AU(a b c:Nat):SOp:=.op ⟨some a,(.bin .add (.tmp b) (.tmp c)),none⟩
abbrev AX(a b c:Nat):SOp:=.op ⟨some a,(.app 1 1 1 [(.int .u8 0)] (.tmp b) (.tmp c)),none⟩
abbrev AY(a b:Nat):SOp:=.op ⟨some a,(.call b []),none⟩
abbrev AZ(a b c:Nat):SOp:=.op ⟨some a,(.un .not (.tmp c)),some (b,false)⟩
abbrev Ba(a b:Nat)(c:Int):SOp:=.op ⟨some a,(.bin .sub (.tmp b) (.av (.int .i64 c))),none⟩
abbrev Bb(a b c d:Nat):SOp:=.op ⟨some a,(.call c [(.tmp d)]),some (b,true)⟩
abbrev Bc(a b:Nat):SOp:=.op ⟨some a,(.bslice false 1 1 [(.int .u8 0)] [(0,(1,(.tmp b)))]),none⟩
abbrev Bd(a b c d e:Nat):aw×Kd:=(⟨some a,(.call b [(.tmp c)]),none⟩,(.read d e))
abbrev Be(a b:Nat):SOp:=.op ⟨some a,(.extract (.tmp b) 2),none⟩
abbrev Bf(a b c d e:Nat):SOp:=.op ⟨some a,(.iaddr c (.tmp d) (.tmp e)),some (b,true)⟩
abbrev Bg(a b:Nat):SOp:=.op ⟨some a,(.b2s (.tmp b)),none⟩
abbrev Bh(a b c:Nat):SOp:=.op ⟨some a,(.app 1 1 24 [(.sl [] 0 (some 0))] (.tmp b) (.tmp c)),none⟩
abbrev Bi(a b c:Nat)(d:Int):SOp:=.op ⟨some a,(.bin .neq (.tmp c) (.av (.int .i64 d))),some (b,false)⟩
abbrev Bj(a:Nat):SOp:=.op ⟨some a,(.alloc [(.str []),(.sl [] 0 (some 0))]),none⟩
abbrev Bk(a b c d:Nat):SOp:=.op ⟨some a,(.idxS (.tmp c) (.tmp d)),some (b,true)⟩
abbrev Bl(a b:Nat):SOp:=.op ⟨some a,(.bslice false 1 1 [(.sl [] 0 (some 0))] [(0,(1,(.tmp b)))]),none⟩
abbrev Bm(a:Nat):SOp:=.op ⟨some a,(.alloc [(.str []),(.str [])]),none⟩
abbrev Bn(a b:Nat):SOp:=.op ⟨some a,(.bslice false 5 1 [(.str []),(.str []),(.int .i64 0),(.sl [] 0 (some 0)),(.sl [] 0 (some 0))] [(0,(5,(.tmp b)))]),none⟩
abbrev Bo(a b c:Nat):SOp:=.op ⟨some a,(.app 1 5 88 [(.str []),(.str []),(.int .i64 0),(.sl [] 0 (some 0)),(.sl [] 0 (some 0))] (.tmp b) (.tmp c)),none⟩
abbrev Bp(a b c:Nat)(d:Int):SOp:=.op ⟨some a,(.bin .lss (.tmp c) (.av (.int .i64 d))),some (b,false)⟩
abbrev Bq(a b c:Nat)(d:Int):SOp:=.op ⟨some a,(.bin .neq (.tmp c) (.av (.int .i64 d))),some (b,true)⟩
abbrev Br(a b c:Nat):SOp:=.op ⟨some a,(.len true (.tmp c)),some (b,false)⟩
abbrev Bt(a b c:Nat):SOp:=.op ⟨some a,(.un .not (.tmp c)),some (b,true)⟩
abbrev Bu(a b c d:Nat)(e:Int):SOp:=.op ⟨some a,(.call b [(.tmp c),(.tmp d),(.av (.int .i64 e))]),none⟩
abbrev Bv(a b c:Nat):SOp:=.op ⟨some a,(.mget .int false .nilptr (.tmp b) (.tmp c)),none⟩
abbrev Bw(a b c:Nat):SOp:=.op ⟨some a,(.nilchk (.tmp c)),some (b,true)⟩
abbrev Bx(a:Nat):SOp:=.op ⟨some a,(.alloc [(.str []),(.int .i64 0),(.bool false),(.bool false)]),none⟩
abbrev By(a b:Nat):SOp:=.op ⟨some a,(.conv .i64 (.tmp b)),none⟩
abbrev Bz(a b c:Nat):SOp:=.op ⟨some a,(.bin .neq (.tmp b) (.tmp c)),none⟩
abbrev B0(a b c:Nat):SOp:=.op ⟨some a,(.callv (.tmp b) [(.tmp c)]),none⟩
abbrev B1(a b c d:Nat):SOp:=.op ⟨some a,(.idxS (.tmp c) (.tmp d)),some (b,false)⟩
abbrev B3(a b c:Nat):SOp:=.op ⟨some a,(.bin .eql (.tmp c) (.av (.int .u8 32))),some (b,true)⟩
abbrev B4(a b:Nat):SOp:=.op ⟨some a,(.bslice false 1 1 [(.str [])] [(0,(1,(.tmp b)))]),none⟩
abbrev B5(a b:Nat):SOp:=.op ⟨some a,(.eqk false .ptr (.tmp b) (.av .nilptr)),none⟩
abbrev B6(a b c:Nat)(d:Int)(e:Nat):SOp:=.op ⟨some a,(.call b [(.tmp c),(.av (.int .i64 d)),(.tmp e)]),none⟩
abbrev B7(a b c d:Nat):SOp:=.op ⟨some a,(.bin .eql (.tmp c) (.tmp d)),some (b,true)⟩
abbrev B8(a b c:Nat)(d:Int):SOp:=.op ⟨some a,(.bin .lss (.tmp c) (.av (.int .i64 d))),some (b,true)⟩
abbrev B9(a b:Nat):SOp:=.op ⟨some a,(.bslice false 2 1 [(.str []),(.str [])] [(0,(2,(.tmp b)))]),none⟩
abbrev BA(a b c:Nat):SOp:=.op ⟨some a,(.app 1 2 32 [(.str []),(.str [])] (.tmp b) (.tmp c)),none⟩
abbrev BB(a b c d:Nat):SOp:=.op ⟨some a,(.bin .eql (.tmp c) (.tmp d)),some (b,false)⟩
abbrev BC(a b c:Nat)(d:Int):SOp:=.op ⟨some a,(.bin .gtr (.tmp c) (.av (.int .i64 d))),some (b,true)⟩
abbrev BD(a b c:Nat):SOp:=.op ⟨some a,(.app 1 1 16 [(.str [])] (.tmp b) (.tmp c)),none⟩
abbrev BE(a b c:Nat):SOp:=.op ⟨some a,(.bin .sub (.tmp b) (.tmp c)),none⟩
abbrev BF(a b:Nat)(c:Int):SOp:=.op ⟨some a,(.slV 1 (.tmp b) (some (.av (.int .i64 c))) none none),none⟩
abbrev BG(a b:Nat):SOp:=.op ⟨some a,(.bslice false 2 1 [(.str []),(.sl [] 0 (some 0))] [(0,(2,(.tmp b)))]),none⟩
abbrev BH(a:Nat):SOp:=.op ⟨some a,(.bslice false 1 1 [(.str [])] [(0,(1,(.av (.str [100,101,115,99,114,105,112,116,105,111,110]))))]),none⟩
abbrev BI(a b c d:Nat):SOp:=.op ⟨some a,(.callv (.tmp b) [(.tmp c),(.tmp d)]),none⟩
abbrev BJ(a b c d:Nat):SOp:=.op ⟨some a,(.load true c (.tmp d)),some (b,true)⟩
abbrev BK(a b c:Nat):SOp:=.op ⟨some a,(.app 2 1 16 [(.str [])] (.tmp b) (.tmp c)),none⟩
abbrev BL(a b:Nat)(c:Int):SOp:=.op ⟨some a,(.callv (.tmp b) [(.av (.int .i64 c))]),none⟩
abbrev BM(a b c:Nat)(d:Int):SOp:=.op ⟨some a,(.bin .rem (.tmp c) (.av (.int .i64 d))),some (b,true)⟩
abbrev BN(a b:Nat):SOp:=.op ⟨some a,(.bin .sub (.tmp b) (.av (.int .u8 48))),none⟩
abbrev BO(a b:Nat)(c:Int):SOp:=.op ⟨some a,(.idxS (.tmp b) (.av (.int .i64 c))),none⟩
abbrev BP(a b c:Nat)(d:Int):SOp:=.op ⟨some a,(.bin .geq (.tmp c) (.av (.int .i64 d))),some (b,false)⟩
abbrev BQ(a b c:Nat):SOp:=.op ⟨some a,(.slS (.tmp b) (some (.tmp c)) none),none⟩
abbrev BR(a b:Nat):SOp:=.op ⟨some a,(.bin .eql (.tmp b) (.av (.str []))),none⟩
abbrev BS(a b:Nat):SOp:=.op ⟨some a,(.bin .eql (.tmp b) (.av (.int .u8 0))),none⟩
abbrev BT(a b c:Nat)(d:Int):SOp:=.op ⟨some a,(.bin .sub (.tmp c) (.av (.int .i64 d))),some (b,true)⟩
abbrev BU(a:Nat):SOp:=.op ⟨some a,(.alloc [(.int .i64 0),(.str []),(.str []),(.sl [] 0 (some 0)),(.sl [] 0 (some 0))]),none⟩
abbrev BV(a b c:Nat):SOp:=.op ⟨some a,(.eqk false .ptr (.tmp c) (.av .nilptr)),some (b,false)⟩
abbrev BW(a b c:Nat):SOp:=.op ⟨some a,(.call b [(.tmp c),(.av (.sl [] 0 (some 0)))]),none⟩
abbrev BX(a b c:Nat):SOp:=.op ⟨some a,(.app 1 2 40 [(.str []),(.sl [] 0 (some 0))] (.tmp b) (.tmp c)),none⟩
abbrev BY(a b:Nat):SOp:=.op ⟨some a,(.bslice false 4 1 [(.str []),(.int .i64 0),(.bool false),(.bool false)] [(0,(4,(.tmp b)))]),none⟩
abbrev BZ(a b c:Nat):SOp:=.op ⟨some a,(.app 1 4 32 [(.str []),(.int .i64 0),(.bool false),(.bool false)] (.tmp b) (.tmp c)),none⟩
abbrev Ca(a b:Nat)(c:Int):SOp:=.op ⟨none,(.store a (.tmp b) (.av (.int .i64 c))),none⟩
abbrev Cb(a:Nat):SOp:=.op ⟨some a,(.bslice false 1 0 [] []),none⟩
abbrev Cc(a b c:Nat)(d:Int):SOp:=.op ⟨some a,(.idxS (.tmp c) (.av (.int .i64 d))),some (b,false)⟩
abbrev Cd(a b c:Nat)(d:Int):SOp:=.op ⟨some a,(.callv (.tmp c) [(.av (.int .i64 d))]),some (b,false)⟩
abbrev Ce(a b c:Nat)(d e:Int):SOp:=.op ⟨some a,(.slS (.tmp c) (some (.av (.int .i64 d))) (some (.av (.int .i64 e)))),some (b,false)⟩
abbrev Cf(a b:Nat):SOp:=.op ⟨some a,(.bin .neq (.tmp b) (.av (.str []))),none⟩
abbrev Cg(a b c:Nat)(d:Int):SOp:=.op ⟨some a,(.bin .add (.tmp c) (.av (.int .i64 d))),some (b,true)⟩
abbrev Ch(a b c d:Nat):SOp:=.op ⟨some a,(.slS (.tmp b) (some (.tmp c)) (some (.tmp d))),none⟩
abbrev Ci(a b c:Nat)(d:Int):SOp:=.op ⟨some a,(.bin .sub (.tmp c) (.av (.int .i64 d))),some (b,false)⟩
abbrev Cj(a b c:Nat):SOp:=.op ⟨some a,(.slV 2 (.tmp b) none (some (.tmp c)) none),none⟩
abbrev Ck(a b:Nat):SOp:=.op ⟨some a,(.bin .geq (.tmp b) (.av (.int .u8 65))),none⟩
abbrev Cl(a b c:Nat):SOp:=.op ⟨some a,(.bin .eql (.tmp c) (.av (.int .u8 32))),some (b,false)⟩
abbrev Cm(a b c:Nat):SOp:=.op ⟨some a,(.slV 1 (.tmp b) none (some (.tmp c)) none),none⟩
abbrev Co(a:Nat):SOp:=.op ⟨some a,(.mv (.av (.int .u8 0))),none⟩
abbrev Cp(a:Nat):SOp:=.op ⟨some a,(.alloc [(.int .i64 0)]),none⟩
abbrev Cq(a:Nat):SOp:=.op ⟨some a,(.alloc [(.int .i64 0),(.str [])]),none⟩
abbrev Cr(a b c d:Nat):SOp:=.op ⟨some a,(.bin .lss (.tmp c) (.tmp d)),some (b,true)⟩
abbrev Cs(a b c:Nat):aw×Kd:=(⟨some a,(.build [(.str []),(.sl [] 0 (some 0))] [(0,(1,(.tmp b))),(1,(1,(.tmp c)))]),none⟩,.pure)
abbrev Ct(a b c d:Nat):aw×Kd:=(⟨some a,(.bslice false 2 1 [(.str []),(.sl [] 0 (some 0))] [(0,(2,(.tmp b)))]),none⟩,(.read c d))
abbrev Cu(a b:Nat):SOp:=.op ⟨some a,(.bslice false 1 1 [(.int .i64 0)] [(0,(1,(.tmp b)))]),none⟩
abbrev Cv(a b c d:Nat):SOp:=.op ⟨some a,(.bin .neq (.tmp c) (.tmp d)),some (b,true)⟩
abbrev Cw(a b c:Nat):SOp:=.op ⟨some a,(.slV 1 (.tmp b) (some (.tmp c)) none none),none⟩
abbrev Cx(a b c d e:Nat):SOp:=.op ⟨some a,(.call c [(.tmp d),(.tmp e)]),some (b,false)⟩
abbrev Cy(a b c d e:Nat)(f:Int):SOp:=.op ⟨some a,(.call b [(.tmp c),(.tmp d),(.tmp e),(.av (.str [])),(.av (.int .i64 f))]),none⟩
abbrev Cz(a:Nat):SOp:=.op ⟨some a,(.alloc [.nilptr,.nilptr,.nilptr,(.sl [] 0 (some 0)),(.sl [] 0 (some 0))]),none⟩
abbrev C0(a:Nat):SOp:=.op ⟨some a,(.alloc [(.sl [] 0 (some 0)),(.sl [] 0 (some 0))]),none⟩
abbrev C2(a:Nat):SOp:=.op ⟨some a,(.build [.nilptr,.nilptr,.nilptr,(.sl [] 0 (some 0)),(.sl [] 0 (some 0))] []),none⟩
abbrev C3(a b c d e f:Nat):SOp:=.op ⟨some a,(.call b [(.tmp c),(.tmp d),(.tmp e),(.tmp f),(.av (.sl [] 0 (some 0)))]),none⟩
abbrev LSO:=List SOp
abbrev C4:List Bool:=[true,false]
abbrev C6:List Bool:=[true,false,false]
abbrev C7:List Bool:=[true,false,false,false]
abbrev CA:List Bool:=[true,false,false,false,false]
abbrev CB:List Bool:=[true,false,false,false,false,false]
abbrev CC:List Bool:=[true,false,false,false,false,false,false]
abbrev CD:List Bool:=[true,true,false]
abbrev CE:List Bool:=[true,false,false,false,false,false,false,false]
abbrev CF:List Bool:=[true,true,false,false,false]
abbrev CG:List Bool:=[true,false,false,false,false,false,false,false,false,false]
abbrev CH:List Bool:=[true,true,false,false,false,false,false]
abbrev CI:List Bool:=[true,true,false,false,false,false,false,false]
abbrev CJ:List Bool:=[true,true,true,false]
abbrev CK:List Bool:=[true,false,false,false,false,false,false,false,false,false,false,false]
abbrev CL:List Bool:=[true,false,false,false,false,false,false,false,false]
abbrev CM:List Bool:=[true,true,false,false]
abbrev CN:List Bool:=[false,false,false,false]
abbrev CO:List Bool:=[false,false,false,false,false,false,false,false]
abbrev CP:List Bool:=[true,true,false,false,false,false]
abbrev CQ:List Bool:=[false,false,false,false,false]
abbrev CR:List Bool:=[true,true,false,false,false,false,false,false,false]
abbrev CT:List Bool:=[false,false,false,false,false,false,false]
abbrev CU:List Bool:=[true,true,true,false,false,false]
abbrev CV:List Bool:=[true,true,true,false,false]
abbrev CW:List Bool:=[true,true,false,false,false,false,false,false,false,false,false,false]
abbrev CY:List Bool:=[true,false,false,false,false,false,false,false,false,false,false]
abbrev CZ:List Bool:=[false,false]
abbrev Da:List Bool:=[false,true,false,false,false,false,false,false]
abbrev Db:List Bool:=[false,true,false,false,false,false,false]
abbrev Dc:List Bool:=[true,true,true,false,false,false,false,false,false]
abbrev Dd:List Bool:=[false,false,false]
abbrev De:List Bool:=[false,false,false,false,false,false,false,false,false,false]
abbrev Df:List Bool:=[false,false,false,false,false,false,false,false,false,false,false,false,false,false]
abbrev Dg:List Bool:=[true,true,true,false,false,false,false]
abbrev Dh:List Bool:=[false,false,false,false,false,false]
abbrev Di:List Bool:=[false,true,false,false,false,false,false,false,false]
abbrev Dj:List Bool:=[true,false,false,false,false,false,false,false,false,false,false,false,false,false]
abbrev Dk:List Bool:=[true,true,true,false,false,false,false,false,false,false,false,false]
abbrev Dl:List Bool:=[true,true,false,false,false,false,false,false,false,false]
abbrev Dm:List Bool:=[true,false,false,false,false,false,false,false,false,false,false,false,false,false,false]
abbrev Dn:List Bool:=[true,true,false,false,false,false,false,false,false,false,false]
abbrev Dp:List Bool:=[true,false,false,false,false,false,false,false,false,false,false,false,false]
abbrev Dq:List Bool:=[false,true,true,false,false,false,false,false,false,false,false,false,false,false,false,false,false,false,false]
abbrev Dr:List Bool:=[false,true,false,false,false,false,false,false,false,false,false]
attribute [push_cast] Aa Ab Ac Ad Ae Af Ag Ah Ai Aj Ak Al Am An Ao Ap Aq Ar As Au Aw Ax Ay Az A0 A3 A5 A6 A7 A8 A9 AA AB AC AD AE AF AH AI AJ AK AL AM AN AO AP AS AT AU AX AY AZ Ba Bb Bc Bd Be Bf Bg Bh Bi Bj Bk Bl Bm Bn Bo Bp Bq Br Bt Bu Bv Bw Bx By Bz B0 B1 B3 B4 B5 B6 B7 B8 B9 BA BB BC BD BE BF BG BH BI BJ BK BL BM BN BO BP BQ BR BS BT BU BV BW BX BY BZ Ca Cb Cc Cd Ce Cf Cg Ch Ci Cj Ck Cl Cm Co Cp Cq Cr Cs Ct Cu Cv Cw Cx Cy Cz C0 C2 C3 C4 C6 C7 CA CB CC CD CE CF CG CH CI CJ CK CL CM CN CO CP CQ CR CT CU CV CW CY CZ Da Db Dc Dd De Df Dg Dh Di Dj Dk Dl Dm Dn Dp Dq Dr
section
variable {P:Program}{w0:World}{S0:SB}{N:Nat}{own:Nat->Nat->Nat}{Q:Exit->Tm->List Blk->Prop}{T:Tm}{L:List Blk}
theorem Rel.none_of{E:Env}{w:World}(h:Rel w0 S0 E L w):∀i,L.length<=i->E.loc i=none/\E.tok i=none:=λi a=>⟨h.fresh i a,h.tkfresh i a⟩
theorem St.cut{E0 E:Env}{a:Act}{w:World}{T':Tm}{L':List Blk}{B:Nat}(g:E0.le E)(n:∀i,B<=i->E0.loc i=none/\E0.tok i=none)(h:St w0 S0 N E T L a w)(b:Cut B T' L' T L):∃E',E0.le E'/\St w0 S0 N E' T' L' a w:=by obtain⟨j,X,rfl,d,k⟩:=b;rcases k with rfl|⟨m,l⟩;exact⟨E,g,by simpa using h.1,h.2.1.sub j,h.2.2⟩;refine⟨E.res L'.length id,aeE g n d id (λ_ _=>rfl),h.1.cut l,λt v f=>?_,h.2.2⟩;have:=(h.2.1.sub j) t v f;refine VR.cut (E:=E) (E':=E.res L'.length id) (p:=λi=>decide (i<L'.length)) (λ_ _ _ x=>x) (λi c e b=>?_) (λi c e b=>?_) v _ (m _ (Nw f)) this;rw[Env.res_loc (by simpa using e)];exact b;rw[Env.res_tok (by simpa using e)];exact b
def Nxt(B n:Nat)(I:Nat->Tm->List Blk->Prop)(T1:Tm)(L1:List Blk):Prop:=∃m T2 L2,m<n/\Cut B T2 L2 T1 L1/\I m T2 L2
def Mid(B:Nat)(R:Tm->List Blk->Prop)(T1:Tm)(L1:List Blk):Prop:=∃T2 L2,Cut B T2 L2 T1 L1/\R T2 L2
theorem ah{B n:Nat}{I:Nat->Tm->List Blk->Prop}{T1:Tm}{L1:List Blk}(m:Nat)(a:Tm)(L2:List Blk)(d:m<n)(c:Cut B a L2 T1 L1)(b:I m a L2):Nxt B n I T1 L1:=⟨m,a,L2,d,c,b⟩
theorem asr{B:Nat}{T' T:Tm}{L:List Blk}(a:aaL T' T:=by repeat' first|exact aeg|refine On rfl rfl ?_|refine aam rfl rfl ?_|refine On rfl (congrArg (AV.int _) aso) ?_|refine On rfl (by first|(simp_all;done)|(simp_all;omega)|(simp_all;intros;omega)) ?_)(b:B<=L.length:=by simp):Cut B T' L T L:=aeq a b
theorem ass{B:Nat}{T' T:Tm}{L:List Blk}(a:aaL T' T:=by repeat' first|exact aeg|refine On rfl rfl ?_|refine aam rfl rfl ?_)(b:B<=L.length:=by simp):Cut B T' L T L:=aeq a b
theorem ast{B n:Nat}{I:Nat->Tm->List Blk->Prop}{T1:Tm}{L1:List Blk}{m:Nat}{a:Tm}{L2:List Blk}(d:m<n)(c:Cut B a L2 T1 L1)(b:I m a L2):Nxt B n I T1 L1:=⟨m,a,L2,d,c,b⟩
theorem jO{B:Nat}{R:Tm->List Blk->Prop}{T1:Tm}{L1:List Blk}(a:Tm)(L2:List Blk)(b:Cut B a L2 T1 L1)(c:R a L2):Mid B R T1 L1:=⟨a,L2,b,c⟩
theorem ak{x:bK}(I:Nat->Tm->List Blk->Prop){n0:Nat}{T0:Tm}{L0:List Blk}(o:Cut L.length T0 L0 T L)(Y:I n0 T0 L0)(round:∀n T' L',I n T' L'->AW P N own x (aei (Nxt L.length n I) Q) T' L'):AW P N own (.loop x) Q T L:=λc X r G w0 S0 E a w g=>by
 classical
 obtain⟨c1,rfl,t⟩:=ajp X;have z:=g.1.none_of
 let J:Act->World->Nat->Prop:=λa w n=>∃j l E' T' L',Bs w0 S0 j l/\E.le E'/\I n T' L'/\St j l N E' T' L' a w
 have d:∀a w,∃m,(∃n,J a w n)->J a w m/\∀k,J a w k->m<=k:=λa w=>by by_cases h:∃n,J a w n;obtain⟨n,K⟩:=h;obtain⟨m,t,O⟩:=aco (J a w) n K;exact⟨m,λ_=>⟨t,O⟩⟩;simp[*]
 let μ:Act->World->Nat:=λa w=>Classical.choose (d a w)
 have y:∀a w,(∃n,J a w n)->J a w (μ a w)/\∀k,J a w k->μ a w<=k:=λa w=>Classical.choose_spec (d a w)
 obtain⟨S,W,R⟩:=g.cut (.refl E) z o;refine wpIn_loop (λa w=>∃n,J a w n) μ ⟨n0,w0,S0,S,_,_,.refl _ _,W,Y,R⟩ λa w V=>?_
 obtain⟨⟨j,l,E',T',L',b,g1,Z,g3⟩,_⟩:=y a w V;refine wpIn_mono (round _ T' L' Z c1 t r (λe=>G (by simp[bK.hasRF,e])) j l E' a w g3) λe F w' ⟨B,v,s,q,p,C,D,u,A⟩=>?_
 cases e;obtain⟨m,T2,L2,M,i,hI⟩:=u;obtain⟨U,q1,H⟩:=A.cut (g1.trans D) z i;have f:J F w' m:=⟨B,v,U,T2,L2,b.trans C,q1,hI,H⟩;exact⟨⟨m,f⟩,Nat.lt_of_le_of_lt ((y F w' ⟨m,f⟩).2 m f) M⟩
 all_goals exact⟨B,v,s,q,p,b.trans C,g1.trans D,u,A⟩
theorem Oo{x y:bK}(R:Tm->List Blk->Prop)(h:AW P N own x (aei (Mid L.length R) Q) T L)(o:∀g L2,R g L2->L.length<=L2.length->AW P N own y Q g L2):AW P N own (.seq x y) Q T L:=λc z r k w0 S0 E a w d=>by
 obtain⟨q,c2,rfl,J,t⟩:=age z;refine wpIn_seq (wpIn_mono (h q J r (λe=>k (by simp[bK.hasRF,e])) w0 S0 E a w d) λe K w' ⟨l,m,E',T',L',b,g1,n,g3⟩=>?_);cases e;obtain⟨g,L2,i,j⟩:=n;obtain⟨v,G,s⟩:=g3.cut g1 d.1.none_of i;obtain⟨_,X,_,f,_⟩:=i;exact wpIn_mono (o g L2 j f c2 t r (λe=>k (by simp[bK.hasRF,e])) l m v K w' s) λe F H ⟨D,u,B,I,p,C,i,j,A⟩=>⟨D,u,B,I,p,b.trans C,G.trans i,j,A⟩
 all_goals exact⟨l,m,E',T',L',b,g1,n,g3⟩
theorem TR.cons{E:Env}{a:Act}{t:Nat}{v:AV}(r:TR E T a)(c:VR E v (a.tmps.getD t undef)):TR E ((t,v)::T) a:=λt' b h=>by simp only[ay]at h;split at h;simp_all;exact r t' b h
theorem bR{lc:bK}(t sz:Nat){l:List AV}{n:Nat}(D:ay T t=some (.sl l n (some n)))(u:l.length=n*sz)(h:AW P N own lc Q ((t,.gsl l n L.length sz)::T) (L++[.spare n sz])):AW P N own lc Q T L:=λc B r i w0 S0 E a w d=>by
 obtain⟨g,A⟩:=d.1.addtok (n:=n) (sz:=sz) (lc:=none) WP;have m:=d.2.1 t _ D;have q:=d.2.1.mono g;refine wpIn_mono (h c B r i w0 S0 _ a w ⟨A,q.cons ?_,d.2.2⟩) λe F w' ⟨k,s,E',T1,L1,b,z,o,x⟩=>⟨k,s,E',T1,L1,b,g.trans z,o,x⟩
 have f:=VR.mono g _ _ m;obtain⟨p,c',C,j,v,y⟩:=f;exact⟨p,c',C,j,u,y,⟨n,sz,none⟩,asp,ao0 _,λ_=>⟨rfl,λ_=>v n rfl,asp⟩⟩
theorem aX{x:Opd}{y z:bK}{p:Prop}[Decidable p](a:evX T x=some (.bool (decide p)))(b:p->AW P N own y Q T L)(c:¬p->AW P N own z Q T L):AW P N own (.cond x y z) Q T L :=
 be a (λe=>b (of_decide_eq_true e)) (λe=>c (of_decide_eq_false e))
theorem aW{x:Opd}{y z:bK}{p:Prop}[Decidable p](a:evX T x=some (.bool (!decide p)))(b:¬p->AW P N own y Q T L)(c:p->AW P N own z Q T L):AW P N own (.cond x y z) Q T L :=
 be a (λe=>b (of_decide_eq_false (by simpa using e))) (λe=>c (of_decide_eq_true (by simpa using e)))
end
section
variable {P:Program}{K:Tm->Prop}{L L1:List Blk}{Ls:List (List Blk)}{p:AV}{d:Option Nat}{op:LOp}{rest:List aw}{T:Tm}{t:Nat}{b:Bool}{al:Option Nat}{n:Nat}
def akn(L:List Blk)(k:AV->Prop):Option (Prop×AV×List Blk)->Prop
 |some (c,av,L')=>c/\L'=L/\k av
 |none=>False
theorem ahV{k:AV->Prop}{c:Prop}{av:AV}{L':List Blk}:akn L k (some (c,av,L'))=(c/\L'=L/\k av):=rfl
def afx(L L1:List Blk)(k:AV->Prop):Option (Prop×AV×List Blk)->Option (Prop×AV×List Blk)->Prop
 |some (c,av,L'),some (c2,av2,L2)=>c/\L'=L/\c2/\av2=av/\L2=L1/\k av
 |_,_=>False
theorem ahU{k:AV->Prop}{c c2:Prop}{av a:AV}{L' L2:List Blk}:afx L L1 k (some (c,av,L')) (some (c2,a,L2))=(c/\L'=L/\c2/\a=av/\L2=L1/\k av):=rfl
def anF(P:Program)(f:FuncId)(L:List Blk)(k:AV->Prop):Option (List AV)->Prop
 |some args=>∃v,af P f args L (λav L'=>av=v/\L'=L)/\k v
 |none=>False
def amd(P:Program)(f:FuncId)(L L1:List Blk)(k:AV->Prop):Option (List AV)->Prop
 |some args=>∃v,af P f args L (λav L'=>av=v/\L'=L)/\af P f args L1 (λav L'=>av=v/\L'=L1)/\k v
 |none=>False
def aeo(b:Bool)(y n:Prop):Option AV->Prop
 |some (.bool x)=>if x=b then y else n
 |some (.tup [])=>n
 |_=>False
theorem ahX{b x:Bool}{y n:Prop}:aeo b y n (some (.bool x))=if x=b then y else n:=rfl
theorem akr{b:Bool}{y n:Prop}:aeo b y n (some (.tup []))=n:=rfl
def amu(P:Program)(f:FuncId)(args:List AV)(L L1:List Blk)(k:AV->Prop):Prop:=∃v,af P f args L (λav L'=>av=v/\L'=L)/\af P f args L1 (λav L'=>av=v/\L'=L1)/\k v
theorem bg{f:FuncId}{args:List AV}{k:AV->Prop}{v:AV}(h:af P f args L (λav L'=>av=v/\L'=L))(b:af P f args L1 (λav L'=>av=v/\L'=L1))(a:k v):amu P f args L L1 k:=⟨v,h,b,a⟩
theorem anE{f:FuncId}{k:AV->Prop}{args:List AV}:anF P f L k (some args)=aku P f args L k:=rfl
theorem anD{f:FuncId}{k:AV->Prop}{args:List AV}:amd P f L L1 k (some args)=amu P f args L L1 k:=rfl
theorem akw{o:aw}{v:AV}(h:o.op.isCall=false):AQv P o T L v=(match au T L o.op with|some (c,av,L')=>c/\av=v/\L'=L|none=>False):=by obtain⟨d,op,g⟩:=o;cases op<;>simp only[LOp.isCall,aqm]at h<;>rfl
def aaM(P:Program)(L:List Blk)(k:AV->Prop)(T:Tm)(op:LOp):Prop :=
 match op with
 |.call f xs=>anF P f L k (jc T xs)
 |.callv f xs=>∃v,AQv P ⟨none,.callv f xs,none⟩ T L v/\k v
 |lo=>akn L k (au T L lo)
def akk(P:Program)(L L1:List Blk)(k:AV->Prop)(T:Tm)(op:LOp):Prop :=
 match op with
 |.call f xs=>amd P f L L1 k (jc T xs)
 |.callv f xs=>∃v,(AQv P ⟨none,.callv f xs,none⟩ T L v/\AQv P ⟨none,.callv f xs,none⟩ T L1 v)/\k v
 |lo=>afx L L1 k (au T L lo) (au T L1 lo)
def AGK(P:Program)(K:Tm->List Blk->Prop)(Ls:List (List Blk))(H:List o9)(rest:List (aw×Kd))(d:Option Nat)(T:Tm)(av:AV):Prop:=AG P K rest Ls H (di d av T)
def AGR(P:Program)(K:Tm->List Blk->Prop)(Ls:List (List Blk))(H:List o9)(rest:List (aw×Kd))(f:Nat)(o:aw)(T:Tm)(av:AV):Prop:=AG P K rest Ls (aeZ f o T av H) (di o.dst av T)
def AGE(P:Program)(K:Tm->List Blk->Prop)(Ls:List (List Blk))(H:List o9)(rest:List (aw×Kd))(d:Option Nat)(T:Tm)(av:AV)(L2:List Blk):Prop:=JK P L2 H/\AG P K rest (L2::Ls) (Sk H) (di d av T)
def akm(k:AV->List Blk->Prop):Option (Prop×AV×List Blk)->Prop
 |some (c,av,L2)=>c/\k av L2
 |none=>False
theorem ahT{k:AV->List Blk->Prop}{c:Prop}{av:AV}{L2:List Blk}:akm k (some (c,av,L2))=(c/\k av L2):=rfl
def IsV(v av:AV):Prop:=av=v
theorem am2{o:aw}{T:Tm}{v:AV}{H:List o9}:aeZ 0 o T v H=H:=rfl
theorem am1{f:Nat}{o:aw}{T:Tm}{v:AV}{H:List o9}:aeZ (f+1) o T v H=(f+1,o,T,v)::H:=rfl
theorem ajZ:Sk []=[]:=rfl
theorem ajY{y:aw×Tm×AV}{H:List o9}:Sk ((1,y)::H)=Sk H:=rfl
theorem ang{y:aw×Tm×AV}{H:List o9}:Sk ((n+2,y)::H)=(n+1,y)::Sk H:=rfl
theorem Oq{k:AV->Prop}:(∃v,AQ P ⟨d,op,none⟩ T L v/\k v)=aaM P L k T op:=by
 by_cases h:op.isCall=false;have e:aaM P L k T op=akn L k (au T L op):=by cases op<;>simp only[LOp.isCall,aqm]at h<;>rfl
 rw[e];simp only[AQ,akw (o:=⟨d,op,none⟩) h];rcases au T L op with _|⟨c,av,L'⟩;simp[akn];simp only[akn,eq_iff_iff]
 grind
 cases op<;>simp only[LOp.isCall,not_true_eq_false]at h;rename_i f xs;simp only[AQ,AQv,aaM];rcases jc T xs with _|args;simp[anF];rfl;rfl
theorem amf{k:AV->Prop}:(∃v,(AQ P ⟨d,op,none⟩ T L v/\AQ P ⟨d,op,none⟩ T L1 v)/\k v)=akk P L L1 k T op:=by
 by_cases h:op.isCall=false;have e:akk P L L1 k T op=afx L L1 k (au T L op) (au T L1 op):=by cases op<;>simp only[LOp.isCall,aqm]at h<;>rfl
 rw[e];simp only[AQ,akw (o:=⟨d,op,none⟩) h];rcases au T L op with _|⟨c,av,L'⟩<;>rcases au T L1 op with _|⟨c2,a,L2⟩;simp[afx];simp[afx];simp[afx];simp only[afx,eq_iff_iff]
 grind
 cases op<;>simp only[LOp.isCall,not_true_eq_false]at h;rename_i f xs;simp only[AQ,AQv,akk];rcases jc T xs with _|args;simp[amd];simp only[amd,and_assoc];rfl
theorem afF{k:AV->Prop}{g:aw->AV->Prop}(a:∀v,g ⟨d,op,some (t,b)⟩ v=match ay T t with|some (.bool x)=>if x=b then g ⟨d,op,none⟩ v else v=.tup []|some (.tup [])=>v=.tup []|_=>False):
  (∃v,g ⟨d,op,some (t,b)⟩ v/\k v)=aeo b (∃v,g ⟨d,op,none⟩ v/\k v) (k (.tup [])) (ay T t):=by
 simp only[a];rcases ay T t with _|x;simp[aeo];cases x<;>simp only[aeo,false_and,exists_false]
 grind
 grind
theorem anJ{K:Tm->List Blk->Prop}{H:List o9}:AG P K [] (L::Ls) H T=K T L:=rfl
theorem amh{K:Tm->List Blk->Prop}{H:List o9}{r:List (aw×Kd)}:AG P K ((⟨d,op,none⟩,.pure)::r) (L::Ls) H T=aaM P L (AGK P K (L::Ls) H r d T) T op:=Oq
theorem akB{K:Tm->List Blk->Prop}{H:List o9}{r:List (aw×Kd)}:AG P K ((⟨d,op,some (t,b)⟩,.pure)::r) (L::Ls) H T=aeo b (aaM P L (AGK P K (L::Ls) H r d T) T op) (AGK P K (L::Ls) H r d T (.tup [])) (ay T t):=by rw[<- Oq (d:=d)];exact afF (g:=λo v=>AQ P o T L v) λv=>rfl
theorem akA{K:Tm->List Blk->Prop}{H:List o9}{r:List (aw×Kd)}{f:Nat}:AG P K ((⟨d,op,none⟩,.read 0 f)::r) (L::Ls) H T=aaM P L (AGR P K (L::Ls) H r f ⟨d,op,none⟩ T) T op:=by rw[<- Oq (d:=d)];simp only[AG,aqD,aqx,apr,forall_eq,AGR]
theorem ah2{K:Tm->List Blk->Prop}{H:List o9}{r:List (aw×Kd)}{f:Nat}:AG P K ((⟨d,op,some (t,b)⟩,.read 0 f)::r) (L::Ls) H T=aeo b (aaM P L (AGR P K (L::Ls) H r f ⟨d,op,some (t,b)⟩ T) T op) (AGR P K (L::Ls) H r f ⟨d,op,some (t,b)⟩ T (.tup [])) (ay T t):=by rw[<- Oq (d:=d)];simp only[AG,aqD,aqx,apr,forall_eq];exact afF (g:=λo v=>AQ P o T L v) (k:=AGR P K (L::Ls) H r f ⟨d,op,some (t,b)⟩ T) λv=>rfl
theorem akz{K:Tm->List Blk->Prop}{H:List o9}{r:List (aw×Kd)}{f:Nat}:AG P K ((⟨d,op,none⟩,.read 1 f)::r) (L::L1::Ls) H T=akk P L L1 (AGR P K (L::L1::Ls) H r f ⟨d,op,none⟩ T) T op:=by rw[<- amf (d:=d)];simp only[AG,aqD,aqx,apn,apX,or_false,forall_eq_or_imp,forall_eq,AGR]
def aov(P:Program)(L:List Blk)(k:AV->List Blk->Prop)(T:Tm)(op:LOp):Prop :=
 match op with
 |.call f xs=>∃v L2,EQv P ⟨none,.call f xs,none⟩ T L v L2/\k v L2
 |.callv f xs=>∃v L2,EQv P ⟨none,.callv f xs,none⟩ T L v L2/\k v L2
 |lo=>akm k (au T L lo)
theorem anK{K:Tm->List Blk->Prop}{H:List o9}{r:List (aw×Kd)}:AG P K ((⟨d,op,none⟩,.eff)::r) (L::Ls) H T=aov P L (AGE P K (L::Ls) H r d T) T op:=by
 simp only[AG,EQ];have key:∀lo:LOp,lo.isCall=false->(∃v L2,EQv P ⟨d,lo,none⟩ T L v L2/\AGE P K (L::Ls) H r d T v L2)=akm (AGE P K (L::Ls) H r d T) (au T L lo):=λlo hlo=>by
  have e:∀v L2,EQv P ⟨d,lo,none⟩ T L v L2=(match au T L lo with|some (c,av,L')=>c/\av=v/\L'=L2|none=>False):=λv L2=>by cases lo<;>simp only[LOp.isCall,aqm]at hlo<;>rfl
  simp only[e];rcases au T L lo with _|⟨c,av,L'⟩;simp[akm];simp only[akm,eq_iff_iff]
  grind
 have key2:(∃v L2,EQv P ⟨d,op,none⟩ T L v L2/\JK P L2 H/\AG P K r (L2::L::Ls) (Sk H) (di d v T))=(∃v L2,EQv P ⟨d,op,none⟩ T L v L2/\AGE P K (L::Ls) H r d T v L2):=rfl;cases op
 case call=>rfl
 case callv=>rfl
 all_goals exact key _ rfl
theorem ahW:JK P L []=True:=rfl
theorem afy{f:Nat}{v:AV}{H:List o9}:JK P L ((f,⟨d,op,none⟩,T,v)::H)=(aaM P L (IsV v) T op/\JK P L H):=by rw[<- Oq (d:=d)];simp[JK,IsV]
theorem aeh{f:Nat}{v:AV}{H:List o9}:JK P L ((f,⟨d,op,some (t,b)⟩,T,v)::H)=(aeo b (aaM P L (IsV v) T op) (IsV v (.tup [])) (ay T t)/\JK P L H):=by rw[<- Oq (d:=d),<- afF (g:=λo v=>AQ P o T L v) (k:=IsV v) (d:=d) (op:=op) (t:=t) (b:=b) (T:=T) λv=>rfl];simp[JK,IsV]
theorem bz{N:Nat}{own:Nat->Nat->Nat}{Q:Exit->Tm->List Blk->Prop}{qk:List (aw×Kd)}{ts:List aw}(h:AG P (nj P (Q .normal) ts) qk [L] [] T):AW P N own (.dregion qk ts) Q T L:=aat h
end
theorem Wm(xs:List Int):AV.frzL (xs.map (AV.int .i64))=xs.map (AV.int .i64):=by rw[AV.frzL_eq,apq];rfl
theorem ai2(xs:List Int):(xs.map (AV.int .i64)).all AV.one=true:=by rw[List.all_map];simp[AV.one]
theorem amA:IntKind.i64.wrap 0=0:=by decide
theorem amz:IntKind.i64.wrap 1=1:=by decide
theorem amy:IntKind.i64.wrap 2=2:=by decide
theorem akE:IntKind.i64.wrap (-1)=-1:=by decide
structure Nx(p:Prop):Prop where
 o:p
structure NxI(c p:Prop):Prop where
 o:c->p
theorem bJ{c p:Prop}(h:c->p):NxI c p:=⟨h⟩
theorem cT{p:Prop}(h:p):Nx p:=⟨h⟩
section
variable {P:Program}{L:List Blk}{body:List SOp}{d:Nat}{x:Opd}{k:Tm->Prop}{T:Tm}{c:Prop}[Decidable c]{p q:Bool}
theorem bM(h:NxI (c) (GL P L body (IsX x q) T))(a:Nx (k ((d,.bool (decide c&&q))::T))):GQ P L true body d x k T (decide c):=⟨q,λe=>h.o (of_decide_eq_true e),a.o⟩
theorem bq(h:NxI (¬c) (GL P L body (IsX x q) T))(a:Nx (k ((d,.bool (!decide c&&q))::T))):GQ P L true body d x k T (!decide c):=⟨q,λe=>h.o (by simpa using e),a.o⟩
theorem bN(h:NxI (¬c) (GL P L body (IsX x q) T))(a:Nx (k ((d,.bool (decide c ||q))::T))):GQ P L false body d x k T (decide c):=⟨q,λe=>h.o (of_decide_eq_false e),a.o⟩
theorem br(h:NxI (c) (GL P L body (IsX x q) T))(a:Nx (k ((d,.bool (!decide c ||q))::T))):GQ P L false body d x k T (!decide c):=⟨q,λe=>h.o (by simpa using e),a.o⟩
theorem bO(h:NxI (p=true) (GL P L body (IsX x q) T))(a:Nx (k ((d,.bool (p&&q))::T))):GQ P L true body d x k T p:=⟨q,h.o,a.o⟩
theorem bu(h:NxI (p=false) (GL P L body (IsX x q) T))(a:Nx (k ((d,.bool (p ||q))::T))):GQ P L false body d x k T p:=⟨q,h.o,a.o⟩
variable {a b:Prop}[Decidable a][Decidable b]
theorem anr:(decide a&&decide b)=decide (a/\b):=(arx a b).symm
theorem anp:(!decide a&&decide b)=decide (¬a/\b):=by simp[arx]
theorem anq:(decide a && !decide b)=decide (a/\¬b):=by simp[arx]
theorem ano:(!decide a && !decide b)=decide (¬a/\¬b):=by simp[arx]
theorem anU:(decide a ||decide b)=decide (a\/b):=(arT a b).symm
theorem anS:(!decide a ||decide b)=decide (¬a\/b):=by simp[arT]
theorem anT:(decide a || !decide b)=decide (a\/¬b):=by simp[arT]
theorem anR:(!decide a || !decide b)=decide (¬a\/¬b):=by simp[arT]
end
attribute [push_cast] al7 evD deg apl anA aoA anB amb aoz aoy aou anv aot anu anw afU ami amj aks aoB agu aox GOp IsX anr anp anq ano anU anS anT anR apy arh apO ary aqQ arz aqg aq3 aqO aru
attribute [push_cast] amA amz amy akE AGK AGR AGE IsV ahT am2 am1 ajZ ajY ang anJ amh akB akA ah2 akz anK aov ahW afy aeh ahV ahU anE anD ahX akr aaM akk eq_self afE ac4 akx ah1 afG EB acE akl akt ahZ AOp au evX jc ay di bin alX alW un eqA row lM AV.cells? bnd aei afz ag YP ac4 elems app aah gu AV.frz AV.frzL Wm ai2 aqf Option.bind_none apl apI apT arf if_true if_false true_and and_true apb apJ apd apm apU ap1 Yv nu ak1 ak0 al6 apH apx apG aqe ap9 Nat.mul_one Nat.one_mul aps Nat.mul_zero aqR ark aqO aru decide_true decide_false forall_const not_true_eq_false not_false_eq_true ne_eq apj aqm aq4 arl aqD aqx d6 List.set_cons_zero aqr aqd aq1 AV.one aq5 arh apy false_implies implies_true decide_eq_true_eq decide_eq_false_iff_not aq2 Int.toNat_zero Int.toNat_natCast apL Bool.not_not Bool.not_eq_false
theorem Rel.frzB{w0:World}{S0:SB}{E:Env}{L:List Blk}{w:World}(h:Rel w0 S0 E L w){i:Nat}{c:List AV}(A:L[i]?=some (.cells c)):Rel w0 S0 E (L.set i (.cells (AV.frzL c))) w:=by
 have l:i<L.length:=(aoZ.1 A).1;have m:∀(j:Nat) (k:Blk),(L.set i (.cells (AV.frzL c)))[j]?=some k->k.live=true->∃k',L[j]?=some k'/\k'.live=true:=λj k f r=>by rw[apB]at f;split at f;rename_i e;subst e;exact⟨_,A,rfl⟩;exact⟨k,f,r⟩
 have g:∀(j n sz:Nat),(L.set i (.cells (AV.frzL c)))[j]?=some (.spare n sz)->L[j]?=some (.spare n sz):=λj n sz f=>by rw[apB]at f;split at f;cases f;exact f
 refine⟨h.mem,λj k f=>?_,λi l=>h.fresh i (by simpa using l),λi k c f r J=>?_,λi j k k' c c' l P x N=>?_,
  λi l=>h.tkfresh i (by simpa using l),λi n sz t d l=>h.tkown i n sz t d (g i n sz l),λi n sz t d j k' c' l y s x r=>?_,
  λi n sz t d B D q t' Q l y s u=>h.tkinj i n sz t d B D q t' Q (g i n sz l) y s (g B D q u),h.frame,h.size,h.os,h.tape,h.output,h.glob,h.gsz⟩
 rw[apB]at f;split at f;rename_i e;subst e;cases f;obtain⟨H,cs,ty,fr,g1,M,g3,g4,O,I⟩:=h.blk _ _ A;refine⟨H,cs,ty,fr,g1,M,g3,by rw[AV.frzL_eq];simpa using g4,λj a C=>?_,I⟩;rw[AV.frzL_eq,apS,apE]at C;obtain⟨b,G,rfl⟩:=C;obtain⟨v,p,o⟩:=O j b G;exact⟨v,p,VR.frz _ _ o⟩;exact h.blk j k f;obtain⟨k',p,o⟩:=m i k f r;exact h.own i k' c p o J;obtain⟨z,p,o⟩:=m i k l P;obtain⟨F,K,h4⟩:=m j k' x N;exact h.inj i j z F c c' p o K h4;obtain⟨z,p,o⟩:=m j k' x r;exact h.tkloc i n sz t d j z c' (g i n sz l) y s p o
theorem iK{P:Program}{f:FuncId}{args:List AV}{L:List Blk}{K:AV->List Blk->Prop}(h:af P f (AV.frzL args) L K):af P f args L K:=λw0 S0 E w vs b a =>
 h w0 S0 E w vs b (VRL.frz _ _ a)
end Go.Proofs.YtdnfjhflkkpokaaGreatDoor.Av
