/- Joined texts of the walk, made small by a program. -/
import Derived.Test.YtajkbcmleihaoaaGreatDoorZk3
import Derived.Scope
import Derived.Test.YtajkbcmleihaoaaGreatDoorProg
set_option linter.unusedSimpArgs false
set_option linter.unusedVariables false
namespace Go.Proofs.YtajkbcmleihaoaaGreatDoor.Av
open Go
variable {T':Tm}{L2 L':List Blk}{v:AV}{α:Type}{B:Nat}
def EQv(P:Program)(o:aj)(T:Tm)(L:List Blk)(v:AV)(L2:List Blk):Prop :=
 match o.op with
 | .call f xs=>match iI T xs with
   |some args=>ac P f args L λav L'=>av=v/\L'=L2
   |none=>False
 | .callv f xs=>match evX T f,iI T xs with
   |some (.func g caps),some args=>ac P g (args++caps) L λav L'=>av=v/\L'=L2
   |_,_=>False
 | lo=>match ak T L lo with
   |some (c,av,L')=>c/\av=v/\L'=L2
   |none=>False
def EQ(P:Program)(o:aj)(T:Tm)(L:List Blk)(v:AV)(L2:List Blk):Prop :=
 match o.guard with
 |none=>EQv P o T L v L2
 | some (t,b)=>match aq T t with
   |some (.bool x)=>if x=b then EQv P o T L v L2 else v=.tup []/\L2=L
   |some (.tup [])=>v=.tup []/\L2=L
   |_=>False
theorem EQv.congr{P:Program}{o:aj}{T:Tm}{L:List Blk}(a:∀t∈o.op.tmps,aq T t=aq T' t)(b:EQv P o T L v L2):EQv P o T' L v L2:=by unfold EQv at b⊢;split at b;rename_i f xs e;rw[e]at a;rw[<- jE (l:=xs) a];exact b;rename_i f xs e;rw[e]at a;simp only[LOp.tmps,abD]at a;rw[<- jE (l:=xs) (λt c=>a t (.inr c)),<- aw (x:=f) (λt c=>a t (.inl c))];exact b;rw[<- JJ a];exact b
theorem EQ.congr{P:Program}{o:aj}{T:Tm}{L:List Blk}(h:∀t∈o.reads,aq T t=aq T' t)(a:EQ P o T L v L2):EQ P o T' L v L2:=by
 have c:∀t∈o.op.tmps,aq T t=aq T' t:=λt f=>h t (by simp[aj.reads,f])
 unfold EQ at a⊢;split at a;exact a.congr c;rename_i t b d;rw[<- h t (by simp[aj.reads,d])];split at a;split at a;rename_i e;rw[if_pos e];exact a.congr c;simp[*];omega;omega
theorem EQv.aop{P:Program}{o:aj}{T:Tm}{L:List Blk}(a:EQv P o T L v L2):AOp P o (λT' L'=>T'=bz o.dst v T/\L'=L2) T L:=by
 unfold EQv at a;unfold AOp;split at a;rename_i f xs e;simp only[e];split at a;rename_i args h;rw[h];exact ac.mono a λav L' ⟨b,d⟩=>⟨by rw[b],d⟩
 simp_all;rename_i f xs e;simp only[e];split at a;rename_i g caps args l h;rw[l,h];exact ac.mono a λav L' ⟨b,d⟩=>⟨by rw[b],d⟩
 simp_all;rename_i m b d;split at a;rename_i c av L' k;have i:Res (λT' L'=>T'=bz o.dst v T/\L'=L2) o.dst T (ak T L o.op):=by rw[k];obtain⟨j,rfl,rfl⟩:=a;exact⟨j,rfl,rfl⟩
 simp_all;simp_all
theorem EQ.aops{P:Program}{o:aj}{T:Tm}{L:List Blk}(a:EQ P o T L v L2):ma P (λT' L'=>T'=bz o.dst v T/\L'=L2) [o] T L:=by unfold EQ at a;simp only[ma];split at a;rename_i c;simp only[c];exact a.aop;rename_i t b c;simp only[c];split at a;rename_i x d;rw[d,xI];split at a;rename_i e;rw[if_pos e];exact a.aop;simp[*];rename_i d;rw[d,Qc];exact⟨by rw[a.1],a.2.symm⟩;simp_all
def done(es:List Nat)(listed:Array Bool):Nat:=es.countP λe=>listed.getD e false
theorem LK:∀(es:List Nat) (f:Nat->Bool) (m:Nat),(∀(j e:Nat),es[j]?=some e->f e=decide (j<m))->m<=es.length->es.countP f=m
 |[],f,m,_,hm=>by simp at hm;simp[hm]
 | e::es,f,0,h,_=>by
   refine aed.2 λx a=>?_
   obtain⟨j,b,rfl⟩:=adv.1 a;have:=h j _ (ab0 b);simp[*]
 |e::es,f,m+1,h,hm=>by rw[List.countP_cons_of_pos (by have:=h 0 e rfl;simpa using this)];rw[LK es f m (λj x a=>by have:=h (j+1) x (by simpa using a);rw[this];congr 1;simp) (by simpa using hm)]
theorem LD:∀(es:List Nat) (f:Nat->Bool),(∀(j i e d:Nat),es[j]?=some e->es[i]?=some d->j<i->f d=true->f e=true)->∀(j e:Nat),es[j]?=some e->f e=decide (j<es.countP f)
 |[],f,_,j,e,h=>by simp at h
 | x::es,f,hp,j,e,h=>by
   have o:=LD es f λa b y z m l p=>hp (a+1) (b+1) y z (by simpa using m) (by simpa using l) aeu
   by_cases g:f x=true
   .grind
   .have all:∀y∈es,f y=false:=λy c=>by
     obtain⟨k,n,rfl⟩:=adv.1 c;rcases hf:f es[k]with _|_
     .rfl
     .exact absurd (hp 0 (k+1) x es[k] rfl aev aeu hf) g
    rw[List.countP_cons_of_neg g,aed.2 (λy c=>by simp[all y c])]
    grind
section
variable {P:Program}{r:Option Nat}{w0:World}{S0:SB}{N:Nat}{own:Nat->Nat}{ops:Array Oper}{L:List Blk}
theorem SV{O:List aj}{n:Nat}(a4:bm P N own ops (List.range ops.size)=some O)(a_:Er ops O n=true){qs ts:List aj}(s:O=qs++ts)(hn:qs.length=n){es:List Nat}{Ms:Nat->List Blk}(a6:∀e∈es,e<qs.length)(a1:∀(j j' e e':Nat),es[j]?=some e->es[j']?=some e'->j<j'->((nq ops.toList []).getD e' 0).testBit e=true){K:Tm->List Blk->Prop}{T:Tm}{Q:Exit->Act->World->Prop}{E0:Env}{tr:List AV}(a0:tr.length=qs.length)(hq:∀(i:Nat) (o:aj) (v:AV),qs[i]?=some o->tr[i]?=some v->(∃m,es[m]?=some i/\EQ P o (TL T qs tr 0 λj=>decide (j<i)) (Ms m) v (Ms (m+1))) \/
   (i∉es/\∀m,m<=es.length->(∀(j e:Nat),es[j]?=some e->j<m->((nq ops.toList []).getD e 0).testBit i=false)->(∀(j e:Nat),es[j]?=some e->m<=j->((nq ops.toList []).getD i 0).testBit e=false)->AQ P o (TL T qs tr 0 λj=>decide (j<i)) (Ms m) v))(hK:ma P K ts (TL T qs tr 0 λ_=>true) (Ms es.length))(hQ:∀E' T' L' a' w',E0.le E'->K T' L'->St w0 S0 N E' T' L' a' w'->Q .normal a' w'):
  ∀(g:Nat) (b:Array Bool) (a:Act) (w:World) (E:Env),b.size=ops.size->b.toList.count false=g->Ky ops b->E0.le E ->
   (∀i,qs.length<=i->b.getD i false=false)->St w0 S0 N E (TL T qs tr 0 λj=>b.getD j false) (Ms (done es b)) a w->wpAnyIn (fm r) 0 P .any ops Q g b a w:=by
 simp only[Er,abH]at a_;generalize htbl:nq ops.toList []=tbl at a_ a1 hq;obtain⟨⟨⟨⟨a8,a7⟩,c⟩,f⟩,S⟩:=a_;have a5:=xP a4;have bl:O.length=ops.size:=by simpa using a5.1
 have bx:∀i,i<ops.size->∃lo,O[i]?=some lo/\me P N own ops i=some lo:=λi hi=>a5.2 i i (by simp[hi])
 have hD:RG qs:=by
  have:=NP a8;rw[s]at this;have sub:∀(qs ts:List aj),RG (qs++ts)->RG qs:=by
   intro qs;induction qs with
   |nil=>intro _ _;trivial
   |cons q qs ih=>intro ts h;exact⟨λp M=>h.1 p (by simp[M]),ih ts h.2⟩
  grind
 have al:qs.length+ts.length=ops.size:=by rw[<- bl,s];simp
 have z:∀b:Array Bool,b.size=ops.size->Region.ready .any ops b=[]->∀i,i<ops.size->b.getD i false=true:=by
  intro b y hr i;induction i using Nat.strongRecOn with
  | _ i ih =>
    intro hi;rcases hb:b.getD i false with _|_
    .exfalso;have:i∈Region.ready .any ops b:=by
      refine mem_ready.2 ⟨?_,ops[i],acq hi,λe G b2=>?_⟩
      .have A:i<b.size:=aeu;simp[acR,A]at hb⊢;exact hb
      .have:=abL.1 c (ops[i],i) (by rw[adu];simp[hi])
       have:=abL.1 this e (by simpa using G);simp only[b2,adL,adw,decide_eq_true_eq]at this;exact ih e.on this aeu
     rw[hr]at this;cases this
    .rfl
 have ai:∀(b:Array Bool) (i:Nat),b.size=ops.size->i<ops.size->b.getD i true=b.getD i false:=λb i d V=>by have:i<b.size:=aeu;simp[acR,this]
 have R:∀(b:Array Bool) (a:Act) (w:World) (E:Env) (g:Nat),b.size=ops.size->b.toList.count false=g->Ky ops b->E0.le E->(∀i,qs.length<=i->b.getD i false=false)->St w0 S0 N E (TL T qs tr 0 λj=>b.getD j false) (Ms (done es b)) a w ->
   (∀i,i<qs.length->b.getD i false=true)->wpAnyIn (fm r) 0 P .any ops Q g b a w:=by
  intro b a w E g y B l hE F I x;have b0:TL T qs tr 0 (λj=>b.getD j false)=TL T qs tr 0 λ_=>true:=Qa λj hj=>by simp only[acS];exact x j hj
  have hL:Ms (done es b)=Ms es.length:=by congr 1;exact List.countP_eq_length.2 λe G=>x e (a6 e G)
  rw[b0,hL]at I;have a9:O.drop qs.length=ts:=(by rw[s];simp);have bb:g=ts.length:=by
   rw[<- B,<- Nat.add_left_cancel_iff (n:=qs.length),al,<- y];have e:b.toList=List.replicate qs.length true++List.replicate (b.size-qs.length) false:=by
    apply acz;intro i;rcases ab5 i qs.length with d|d
    .have:=x i d;have C:i<b.size:=aeu;rw[abC (by simpa using d)];simp[acR,C]at this;simp[C,d,this]
    .rw[abN (by simpa using d)];have:=F i d;rcases ab5 i b.size with V|V
     .simp[acR,V]at this;simp only[adi];rw[List.getElem?_replicate];rw[if_pos aeu];simp[V,this]
     .rw[acx (by simpa using V),acx (by simp;omega)]
   rw[e];simp[List.count_append,adZ];omega
  rw[bb];exact RQ a4 c f S hQ ts qs.length b _ _ a w E aeu al a9 y (λi hi=>by
   rcases ab5 i qs.length with d|d
   .rw[x i d];simpa using d
   .rw[F i d];simpa using d) l hE I hK
 intro g;induction g with
 | zero =>
   intro b a w E y B l hE F I;have hr:Region.ready .any ops b=[]:=by
    refine List.eq_nil_iff_forall_not_mem.2 λi hi=>?_
    obtain⟨d,o,ho,_⟩:=mem_ready.1 hi;have A:i<ops.size:=(acl.1 ho).1;have:false∈b.toList:=by have C:i<b.size:=aeu;simp[acR,C]at d;rw[<- d];simp
    rw[List.count_eq_zero]at B;exact B this
   exact R b a w E 0 y B l hE F I λi hi=>z b y hr i aeu
 | succ g ih =>
   intro b a w E y B l hE F I;by_cases x:∀i,i<qs.length->b.getD i false=true
   .exact R b a w E _ y B l hE F I x
   refine⟨λhr=>absurd (λi hi=>z b y hr i aeu) x,λi hi=>?_⟩;obtain⟨b1,o,ho,av⟩:=mem_ready.1 hi;have A:i<ops.size:=(acl.1 ho).1;have L:b.getD i false=false:=(by rw[<- ai b i y A];exact b1);obtain⟨lo,X,a3⟩:=bx i A;have u:∀W,ops[i]?=some W->∀e∈W.after,Region.binds .any e=true->b.getD e.on false=true:=λW D=>by rw[ho]at D;cases D;exact av
   have H:∀k,(b.setIfInBounds i true).getD k false=if k=i then true else b.getD k false:=λk=>by
    by_cases e:k=i
    .subst e;have:k<b.size:=aeu;simp[acR,this]
    .rw[if_neg e];exact getD_set_ne false (Ne.symm e)
   have Y:(b.setIfInBounds i true).toList.count false=g:=by
    have C:i<b.size:=aeu;have:=U8 b.toList i (by simp[acR,C]at L;simp[C,L])
    rw[Array.toList_setIfInBounds];omega
   have a2:Ky ops (b.setIfInBounds i true):=λk W hk D e G hb=>by
    rw[H]at hk⊢;by_cases U:e.on=i
    .rw[if_pos U]
    .rw[if_neg U];by_cases e2:k=i
     .subst e2;exact u W D e G hb
     .rw[if_neg e2]at hk;exact l k W hk D e G hb
   rcases ab5 i qs.length with bn|bn
   .
    have ap:qs[i]?=some lo:=by rw[s,abC bn]at X;exact X
    have bk:i<tr.length:=aeu;have Z:∀t∈lo.reads,aq (TL T qs tr 0 λj=>decide (j<i)) t=aq (TL T qs tr 0 λj=>b.getD j false) t:=by
     intro t ht;by_cases hw:∃(j:Nat) (p:aj),qs[j]?=some p/\p.dst=some t
     .obtain⟨j,p,M,hd⟩:=hw;have bs:j<qs.length:=(aby.1 M).1;rw[P8 hD a0 M hd,P8 hD a0 M hd];have b3:O[j]?=some p:=(by rw[s,abC bs];exact M);have:=abL.1 a7 (lo,i) (by rw[adu];simpa using X);have:=abL.1 this t ht;have:=abL.1 this (p,j) (by rw[adu];simpa using b3);simp only[hd,beq_self_eq_true,adL,adw,acn,aee]at this;rcases this with d|d
      .have U:=PX c f _ _ aeu d;have e2:=fo c f l i j A u d;simp only[decide_eq_true_eq,if_pos U,if_pos e2]
      .have U:=PX c f _ _ aeu d;have e2:b.getD j false=false:=by
        rcases hb:b.getD j false with _|_
        .rfl
        .have:=fo c f l j i aeu (λW D=>l j W hb D) d;rw[L]at this;cases this
       simp only[decide_eq_true_eq,if_neg (show ¬j<i by omega),e2,abT,if_false]
     .have hno:∀(j:Nat) (p:aj),qs[j]?=some p->p.dst≠some t:=λj p M hd=>hw ⟨j,p,M,hd⟩
      rw[P9 hno,P9 hno]
    have ad:∀(t:Nat) (v:AV),aq (TL T qs tr 0 λj=>(b.setIfInBounds i true).getD j false) t=some v->aq (bz lo.dst tr[i] (TL T qs tr 0 λj=>b.getD j false)) t=some v:=by
     intro t v hv;by_cases hw:∃(j:Nat) (p:aj),qs[j]?=some p/\p.dst=some t
     .obtain⟨j,p,M,hd⟩:=hw;rw[P8 hD a0 M hd]at hv;by_cases e:j=i
      .subst e;rw[ap]at M;cases M;rw[hd,Jy];rw[if_pos (by rw[H,if_pos rfl]),ab0 bk]at hv;exact hv
      .have hne:lo.dst≠some t:=λe'=>e (EH hD M ap hd e')
       rw[xR hne,P8 hD a0 M hd];simp only[H,if_neg e]at hv;exact hv
     .have hno:∀(j:Nat) (p:aj),qs[j]?=some p->p.dst≠some t:=λj p M hd=>hw ⟨j,p,M,hd⟩
      rw[P9 hno]at hv;rw[xR (hno i lo ap),P9 hno];exact hv
    have ab:∀k,qs.length<=k->(b.setIfInBounds i true).getD k false=false:=λk hk=>by rw[H,if_neg aeu];exact F k hk
    have J:∀j e,es[j]?=some e->b.getD e false=decide (j<done es b):=LD es _ λj j' e e' d V h3 h4=>by have C:e'<ops.size:=(by have:=a6 e' (acC V);omega);exact fo c f l e' e C (λW D=>l e' W h4 D) (a1 j j' e e' d V h3)
    have b5:done es b<=es.length:=List.countP_le_length;rcases hq i lo tr[i] ap (ab0 bk)with⟨m,g1,g2⟩|⟨g1,g2⟩
    .have hm:done es b=m:=by
      have d:=J m i g1;rw[L]at d;have V:¬m<done es b:=(by simpa using d.symm);rcases ab5 (done es b) m with h3|h3
      .obtain⟨e,G⟩:∃e,es[done es b]?=some e:=⟨_,ab0 (by have:=(aby.1 g1).1;omega)⟩;have h4:=J _ e G;rw[fo c f l i e A u (a1 _ _ e i G g1 h3)]at h4;simp at h4
      .omega
     have bo:done es (b.setIfInBounds i true)=m+1:=by
      refine LK es _ (m+1) (λj e G=>?_) (by have:=(aby.1 g1).1;omega);rw[H];by_cases U:e=i
      .subst U;rw[if_pos rfl];rcases Nat.lt_trichotomy j m with h3|h3|h3
       .simp;omega
       .simp;omega
       .have:=PX c f e e A (a1 m j e e g1 G h3);omega
      .rw[if_neg U,J j e G,hm];have:j≠m:=λe2=>by subst e2;rw[g1]at G;cases G;exact U rfl
       congr 1;simp only[eq_iff_iff];omega
     rw[hm]at I;refine Og a3 I (EQ.aops (EQ.congr Z g2)) λE' T' L' a' w' bd ⟨U,e2⟩ an=>ih _ a' w' E' (by simpa using y) Y a2 (hE.trans bd) ab ?_
     subst U;subst e2;rw[bo];exact an.weak ad rfl λ_ _ e=>.inr e
    .have hL:done es (b.setIfInBounds i true)=done es b:=by
      unfold done;refine List.countP_congr λe G=>?_
      rw[H,if_neg (λU:e=i=>g1 (U▸G))]
     have b4:=g2 (done es b) b5 (λj e G hj=>by
      rcases hb:(tbl.getD e 0).testBit i with _|_
      .rfl
      .have d:=J j e G;rw[decide_eq_true hj]at d;have C:e<ops.size:=(by have:=a6 e (acC G);omega);have:=fo c f l e i C (λW D=>l e W d D) hb;rw[L]at this;cases this) (λj e G hj=>by
      rcases hb:(tbl.getD i 0).testBit e with _|_
      .rfl
      .have d:=J j e G;rw[fo c f l i e A u hb]at d;have:=of_decide_eq_true d.symm;omega)
     refine Xm a3 I (b4.congr Z) λE' a' w' bd an=>ih _ a' w' E' (by simpa using y) Y a2 (hE.trans bd) ab ?_
     rw[hL];exact an.weak ad rfl λ_ _ e=>.inr e
   .
    refine absurd (λj hj=>?_) x;have d:=abL.1 S i (by simpa using A);simp only[acn,decide_eq_true_eq]at d;rcases d with V|V
    .omega
    .have h3:=abL.1 V j (by simp;omega);exact fo c f l i j A u h3
end
inductive Kd where
 |pure
 |read (n f:Nat)
 |eff
 deriving Inhabited,DecidableEq
abbrev nh:=Nat×aj×Tm×AV
def zS(P:Program)(L:List Blk):List nh->Prop
 |[]=>True
 |(_,o,T,v)::h=>AQ P o T L v/\zS P L h
def Hi:List nh->List nh
 |[]=>[]
 |(0,_)::h=>Hi h
 |(1,_)::h=>Hi h
 |(n+2,y)::h=>(n+1,y)::Hi h
def Sj(f:Nat)(o:aj)(T:Tm)(v:AV)(H:List nh):List nh :=
 match f with
 |0=>H
 |f+1=>(f+1,o,T,v)::H
def AG(P:Program)(K:Tm->List Blk->Prop):List (aj×Kd)->List (List Blk)->List nh->Tm->Prop
 |[],L::_,_,T=>K T L
 |(o,.pure)::r,L::Ls,H,T=>∃v,AQ P o T L v/\AG P K r (L::Ls) H (bz o.dst v T)
 |(o,.read n f)::r,L::Ls,H,T=>∃v,(∀L'∈(L::Ls).take (n+1),AQ P o T L' v)/\AG P K r (L::Ls) (Sj f o T v H) (bz o.dst v T)
 |(o,.eff)::r,L::Ls,H,T=>∃v L2,EQ P o T L v L2/\zS P L2 H/\AG P K r (L2::L::Ls) (Hi H) (bz o.dst v T)
 |_,[],_,_=>False
def mV:List (aj×Kd)->Nat
 |[]=>0
 |(_,.eff)::r=>mV r+1
 |_::r=>mV r
def mem(Ns:List (List Blk))(m:Nat):List Blk:=Ns.reverse.getD m []
theorem xO{X Ls:List (List Blk)}{m:Nat}(h:m<Ls.length):mem (X++Ls) m=Ls.getD (Ls.length-1-m) []:=by
 simp only[mem,List.reverse_append,abR]
 grind
theorem Pr{P:Program}{L:List Blk}:∀{H:List nh},zS P L H->∀y∈H,AQ P y.2.1 y.2.2.1 L y.2.2.2
 |[],_,y,a=>by cases a
 | (f,o,T,v)::h,hr,y,a=>by
   rcases abY.1 a with rfl|a
   .exact hr.1
   .exact Pr hr.2 y a
theorem JK:∀{H:List nh}{y:nh},y∈H->1<y.1->(y.1-1,y.2)∈Hi H
 |[],y,a,_=>by cases a
 | (0,z)::h,y,a,h1=>by
   rcases abY.1 a with rfl|a
   .omega
   .show(y.1-1,y.2)∈Hi h;exact JK a h1
 | (1,z)::h,y,a,h1=>by
   rcases abY.1 a with rfl|a
   .omega
   .show(y.1-1,y.2)∈Hi h;exact JK a h1
 | (n+2,z)::h,y,a,h1=>by
   rcases abY.1 a with rfl|a
   .simp[Hi]
   .exact adq _ (JK a h1)
def TY(P:Program)(o:aj)(T:Tm)(Ns:List (List Blk))(v:AV)(c:Nat):Kd->Prop
 |.pure=>AQ P o T (mem Ns c) v
 |.read n f=>∀m,c-n<=m->m<=c+f->m<Ns.length->AQ P o T (mem Ns m) v
 |.eff=>EQ P o T (mem Ns c) v (mem Ns (c+1))
theorem XI{P:Program}{K:Tm->List Blk->Prop}:∀(qk:List (aj×Kd)) (Ls:List (List Blk)) (H:List nh) (T:Tm) (k:Nat),AG P K qk Ls H T ->
  ∃(tr:List AV) (X:List (List Blk)),tr.length=qk.length/\X.length=mV qk /\
   (∀y∈H,∀m,Ls.length<=m->m<Ls.length+y.1->m<(X++Ls).length->AQ P y.2.1 y.2.2.1 (mem (X++Ls) m) y.2.2.2) /\
   (∀i o kd v,qk[i]?=some (o,kd)->tr[i]?=some v->TY P o (TL T (qk.map (·.1)) tr k λj=>decide (j<k+i)) (X++Ls) v (Ls.length-1+mV (qk.take i)) kd) /\
   K (TL T (qk.map (·.1)) tr k λ_=>true) (mem (X++Ls) ((X++Ls).length-1)):=by
 intro qk;induction qk with
 | nil =>
   intro Ls H T k h;cases Ls with
   |nil=>exact h.elim
   | cons L Ls =>
     refine⟨[],[],rfl,rfl,λy _ m s _ G=>?_,λi o kd v a=>by simp at a,?_⟩
     .grind
     .rw[aco,<- aco (L::Ls),xO aev];have F:K T L:=h;simpa[TL]using F
 | cons q qk ih =>
   intro Ls H T k h;cases Ls with
   |nil=>rcases q with⟨o,_|_|_⟩<;>exact h.elim
   | cons L Ls =>
     obtain⟨o,kd⟩:=q;have g:∀(v:AV) (tr:List AV),TL T (((o,kd)::qk).map (·.1)) (v::tr) k (λj=>decide (j<k+0))=T:=λv tr=>by
      have e:TL T (((o,kd)::qk).map (·.1)) (v::tr) k (λj=>decide (j<k+0))=TL T (((o,kd)::qk).map (·.1)) (v::tr) k (λ_=>false):=Qa λj _=>aev
      rw[e];exact Rx _ _ _ _
     have r:∀(v:AV) (tr:List AV) (i:Nat),TL T (((o,kd)::qk).map (·.1)) (v::tr) k (λj=>decide (j<k+(i+1)))=TL (bz o.dst v T) (qk.map (·.1)) tr (k+1) (λj=>decide (j<k+1+i)):=λv tr i=>by
      simp only[abO,TL]
      grind
     have d:∀(v:AV) (tr:List AV),TL T (((o,kd)::qk).map (·.1)) (v::tr) k (λ_=>true)=TL (bz o.dst v T) (qk.map (·.1)) tr (k+1) (λ_=>true):=λv tr=>by rfl
     cases kd with
     | pure =>
       obtain⟨v,s,x⟩:=h;obtain⟨tr,X,g1,t,g3,g4,w⟩:=ih _ _ _ (k+1) x;refine⟨v::tr,X,by simp[g1],t,g3,λi p kd u a b=>?_,by rw[d];exact w⟩;cases i with
       | zero =>
         simp only[acs,abz,abI]at a b;obtain⟨rfl,rfl⟩:=a;subst b;rw[g];simp only[ada,mV,ac1,TY];rw[xO aev];simpa using s
       | succ i =>
         rw[r];exact g4 i p kd u (by simpa using a) (by simpa using b)
     | read n f =>
       obtain⟨v,s,x⟩:=h;obtain⟨tr,X,g1,t,g3,g4,w⟩:=ih _ _ _ (k+1) x;have D:∀y∈H,y∈Sj f o T v H:=λy l=>by
        unfold Sj;split
        .exact l
        .exact adq _ l
       refine⟨v::tr,X,by simp[g1],t,λy l=>g3 y (D y l),λi p kd u a b=>?_,by rw[d];exact w⟩;cases i with
       | zero =>
         simp only[acs,abz,abI]at a b;obtain⟨rfl,rfl⟩:=a;subst b;rw[g];simp only[ada,mV,ac1,TY];intro m B A z;rcases ab5 m (L::Ls).length with c|c
         .rw[xO c];refine s _ ?_;have C:(L::Ls).length-1-m<(L::Ls).length:=aeu;rw[abR,ab0 C,acQ];rw[List.mem_take_iff_getElem];refine⟨(L::Ls).length-1-m,?_,rfl⟩;simp only[abU]at B c C⊢;omega
         .cases f with
          |zero=>simp only[abU]at A c;omega
          |succ f=>exact g3 (f+1,o,T,v) (by simp[Sj]) m c (by simp only[abU]at A c⊢;omega) z
       | succ i =>
         rw[r];exact g4 i p kd u (by simpa using a) (by simpa using b)
     | eff =>
       obtain⟨v,L2,s,hr,x⟩:=h;obtain⟨tr,X,g1,t,g3,g4,w⟩:=ih _ _ _ (k+1) x;have e:(X++[L2])++(L::Ls)=X++(L2::L::Ls):=aev;refine⟨v::tr,X++[L2],by simp[g1],by simp[mV,t],λy l m B A z=>?_,λi p kd u a b=>?_,by rw[d,e];exact w⟩
       .rw[e]at z⊢;rcases Nat.eq_or_lt_of_le B with c|c
        .subst c;rw[xO aev];have:=Pr hr y l;simpa using this
        .exact g3 _ (JK l aeu) m (by simp only[abU]at c⊢;omega) (by simp only[abU]at A⊢;omega) z
       rw[e];cases i with
       | zero =>
         simp only[acs,abz,abI]at a b;obtain⟨rfl,rfl⟩:=a;subst b;rw[g];simp only[ada,mV,ac1,TY];rw[xO (by simp only[abU];omega),xO (by simp only[abU];omega)];simpa using s
       | succ i =>
         rw[r];have:=g4 i p kd u (by simpa using a) (by simpa using b);have E:(L2::L::Ls).length-1+mV (qk.take i)=(L::Ls).length-1+mV (((o,Kd.eff)::qk).take (i+1)):=by simp only[abU,adx,mV];omega
         rw[E]at this;exact this
def LOp.pureB:LOp->Bool
 |.mv _|.pick .. |.build .. |.bin .. |.un .. |.faddr .. |.extract .. |.mkfn .. |.conv .. |.sconv .. |.eqk .. |.eq2 ..=>true
 |_=>false
theorem Yh{P:Program}{o:aj}{T:Tm}{L:List Blk}(b:o.op.pureB=true)(h:AQ P o T L v):AQ P o T L' v:=by
 have key:∀{c:Prop}{av:AV}{L2:List Blk},ak T L o.op=some (c,av,L2)->ak T L' o.op=some (c,av,L'):=λ{c av L2} f=>by
  have e:ak T L' o.op=(ak T L o.op).map λx=>(x.1,x.2.1,L'):=by obtain⟨d,op,g⟩:=o;cases op<;>simp only[LOp.pureB,abT]at b<;>simp only[ak]<;>(repeat' split)<;>simp[Option.map_map,Function.comp_def]
  simp[*]
 have a:AQv P o T L v->AQv P o T L' v:=λa=>by
  unfold AQv at a⊢;obtain⟨d,op,g⟩:=o;cases op<;>simp only[LOp.pureB,abT]at b<;>simp only at a⊢<;>(
   split at a
   .rename_i c av L2 f;rw[key f];exact⟨a.1,a.2.1,rfl⟩
   .exact a.elim)
 unfold AQ at h⊢;split at h;simp[*]
 grind
def dl:List (aj×Kd)->Nat->List Nat
 |[],_=>[]
 |(_,.eff)::r,k=>k::dl r (k+1)
 |_::r,k=>dl r (k+1)
theorem mf:∀(qk:List (aj×Kd)) (k:Nat),(dl qk k).length=mV qk
 |[],_=>rfl
 |(_,.pure)::r,k=>mf r (k+1)
 |(_,.read _ _)::r,k=>mf r (k+1)
 |(_,.eff)::r,k=>by simp[dl,mV,mf r (k+1)]
theorem NN:∀(qk:List (aj×Kd)) (k i:Nat) (o:aj),qk[i]?=some (o,.eff)->(dl qk k)[mV (qk.take i)]?=some (k+i)
 |[],_,i,o,h=>by simp at h
 |(p,kd)::r,k,0,o,h=>by obtain⟨rfl,rfl⟩:=h;rfl
 |(p,kd)::r,k,i+1,o,h=>by have a:=NN r (k+1) i o (by simpa using h);rw[show k+1+i=k+(i+1)by omega]at a;cases kd<;>simpa[dl,mV]using a
theorem NM:∀(qk:List (aj×Kd)) (k e:Nat),e∈dl qk k->∃i o,e=k+i/\qk[i]?=some (o,.eff)
 |[],_,e,h=>by simp[dl]at h
 | (p,kd)::r,k,e,h=>by
   have go:e∈dl r (k+1)->∃i o,e=k+i/\((p,kd)::r)[i]?=some (o,.eff):=λa=>by
    obtain⟨i,o,rfl,b⟩:=NM r (k+1) e a
    grind
   cases kd with
   |pure=>exact go h
   |read _ _=>exact go h
   | eff =>
     rcases abY.1 h with rfl|h
     .simp
     simp_all
def Kh(tbl:List Nat)(qk:List (aj×Kd)):Bool :=
 let es:=dl qk 0
 ((List.range es.length).all λj'=>(List.range j').all λj=>(tbl.getD (es.getD j' 0) 0).testBit (es.getD j 0)) &&
 qk.zipIdx.all λ((o,kd),i)=>match kd with
  |.pure=>o.op.pureB
  |.eff=>true
  | .read n f=>let c:=mV (qk.take i)
    (List.range es.length).all λj=>(!decide (j<c-n) ||(tbl.getD i 0).testBit (es.getD j 0))&&(!decide (c+f<=j) ||(tbl.getD (es.getD j 0) 0).testBit i)
section
variable {P:Program}{r:Option Nat}{w0:World}{S0:SB}{N:Nat}{own:Nat->Nat}{ops:Array Oper}{L:List Blk}
theorem Rv{A:List aj}{n:Nat}(D:bm P N own ops (List.range ops.size)=some A)(S:Er ops A n=true){qk:List (aj×Kd)}{ts:List aj}(p:A=qk.map (·.1)++ts)(hn:qk.length=n)(W:Kh (nq ops.toList []) qk=true){K:Tm->List Blk->Prop}{T:Tm}{Q:Exit->Act->World->Prop}{E0:Env}(h:AG P (ma P K ts) qk [L] [] T)(hQ:∀E' T' L' a' w',E0.le E'->K T' L'->St w0 S0 N E' T' L' a' w'->Q .normal a' w')(a:Act)(w:World)(E:Env)(hE:E0.le E)(H:St w0 S0 N E T L a w):
  wpAnyIn (fm r) 0 P .any ops Q ops.size (Array.replicate ops.size false) a w:=by
 obtain⟨tr,X,g1,g2,-,g4,V⟩:=XI qk [L] [] T 0 h;have b:∀i,(Array.replicate ops.size false).getD i false=false:=λi=>by
  rw[acR,Array.getElem?_replicate]
  grind
 simp only[Kh,abH]at W;obtain⟨R,U⟩:=W;have t:=mf qk 0;have O:∀e∈dl qk 0,∃o,qk[e]?=some (o,.eff):=λe F=>by obtain⟨i,o,rfl,B⟩:=NM qk 0 e F;simp[*]
 have s:(X++[L]).length=mV qk+1:=by simp[g2]
 refine SV (T:=T) (K:=K) (qs:=qk.map (·.1)) (ts:=ts) (tr:=tr) (es:=dl qk 0) (Ms:=mem (X++[L])) D S p (by simpa using hn) (λe F=>?_) (λj Y e e' h1 B h3=>?_) (by simpa using g1) (λi o v z hv=>?_) ?_ hQ ops.size _ a w E aev (by simp[adZ]) (λi o Z=>by rw[b]at Z;cases Z) hE (λi _=>b i) ?_
 grind
 have l2:Y<(dl qk 0).length:=(aby.1 B).1;have:=abL.1 (abL.1 R Y (by simpa using l2)) j (by simpa using h3);simp_all;rw[acy,abZ]at z;obtain⟨⟨I,kd⟩,z,rfl⟩:=z;have G:=g4 i I kd v z hv;simp only[List.length_singleton,adb,acS]at G;have y:=abL.1 U ((I,kd),i) (by rw[adu];simpa using z);have k:kd≠.eff->i∉dl qk 0:=λJ F=>by obtain⟨o2,B⟩:=O i F;rw[z]at B;cases B;exact J rfl
 cases kd with
 | eff =>
   refine .inl ⟨mV (qk.take i),?_,G⟩;simpa using NN qk 0 i I z
 |pure=>exact .inr ⟨k aev,λm _ _ _=>Yh (by simpa using y) G⟩
 | read n f =>
   refine .inr ⟨k aev,λm hm p1 p2=>?_⟩;simp only at y;have C:=λj (hj:j<(dl qk 0).length)=>abL.1 y j (by simpa using hj)
   have ab:mV (qk.take i)<=(dl qk 0).length:=by
    have:∀(l:List (aj×Kd)) (i:Nat),mV (l.take i)<=mV l:=by
     intro l;induction l with
     |nil=>intro i;simp
     | cons q l ih =>
       intro i;cases i with
       |zero=>simp[mV]
       |succ i=>obtain⟨o,_|_|_⟩:=q<;>simp only[adx,mV]<;>have:=ih i<;>omega
    rw[t];exact this qk i
   refine G m ?_ ?_ (by rw[s];omega)
   .rcases ab5 m (mV (qk.take i)-n)with d|u
    .have hme:m<(dl qk 0).length:=aeu;have:=C m hme;simp only[abH,acn,acd,decide_eq_false_iff_not]at this;have M:=p2 m _ (ab0 hme) (abA _);rcases this.1 with c|c
     .exact absurd d c
     .rw[abR (l:=dl qk 0),ab0 hme]at c;simp only[acQ]at c;rw[M]at c;cases c
    .exact u
   .rcases ab5 (mV (qk.take i)+f) m with d|u
    .have hme:mV (qk.take i)+f<(dl qk 0).length:=aeu;have:=C _ hme;simp only[abH,acn,acd,decide_eq_false_iff_not]at this;have M:=p1 _ _ (ab0 hme) d;rcases this.2 with c|c
     .exact absurd (abA _) c
     .rw[abR (l:=dl qk 0),ab0 hme]at c;simp only[acQ]at c;rw[M]at c;cases c
    .exact u
 rw[s]at V;rw[t];simpa using V
 .have e:TL T (qk.map (·.1)) tr 0 (λj=>(Array.replicate ops.size false).getD j false)=T:=by refine Eq.trans (Qa (g:=λ_=>false) λj _=>b _) (Rx _ tr T 0)
  have e2:done (dl qk 0) (Array.replicate ops.size false)=0:=aed.2 λx _=>by rw[b];simp
  rw[e,e2,xO aev];simpa using H
end
inductive SOp where
 |op (o:aj)
 |grp (g:Option (Nat×Bool)) (t:Nat) (b:Bool) (body:List SOp) (d:Nat) (x:Opd)
 deriving Inhabited
def cT(g:Option (Nat×Bool))(t:Nat)(b:Bool)(d:Nat)(x:Opd):aj :=
 ⟨some d,.pick (.tmp t) (if b then x else .av (.bool true)) (if b then .av (.bool false)else x),g⟩
mutual
def SOp.flat:SOp->List aj
 |.op o=>[o]
 |.grp g t b body d x=>SOp.flatL body++[cT g t b d x]
def SOp.flatL:List SOp->List aj
 |[]=>[]
 |s::r=>SOp.flat s++SOp.flatL r
end
def aW(l:List aj):List Nat:=l.filterMap (·.dst)
def gds:List SOp->List Nat
 |[]=>[]
 |.op _::r=>gds r
 |.grp _ _ _ body _ _::r=>aW (SOp.flatL body)++gds r
def bH:SOp->List Nat
 |.op o=>o.dst.toList
 |.grp _ _ _ _ d _=>[d]
mutual
def okO(g:Nat×Bool)(seen:List Nat):SOp->Bool
 |.op o=>decide (o.guard=some g)
 |.grp g' t b body d x=>decide (g'=some g)&&seen.contains t && !(aW (SOp.flatL body)).contains t && !(aW (SOp.flatL body)).contains g.1&&okB (t,b) [] body
def okB(g:Nat×Bool)(seen:List Nat):List SOp->Bool
 |[]=>true
 |s::r=>okO g seen s&&(bH s).all (λd => !(gds r).contains d&&d != g.1)&&okB g (bH s++seen) r
end
def okS:List SOp->Bool
 |[]=>true
 |.op o::r=>o.dst.toList.all (λd => !(gds r).contains d)&&okS r
 |.grp g t b body d x::r=>decide (g=none) && !(aW (SOp.flatL body)).contains t&&okB (t,b) [] body && !(gds r).contains d&&okS r
def mrg(b p q:Bool):Bool:=if b then p&&q else p ||q
def XD(P:Program)(f:FuncId)(args:List AV)(L:List Blk)(k:AV->Prop):Prop:=∃v,ac P f args L (λav L'=>av=v/\L'=L)/\k v
theorem bp{P:Program}{f:FuncId}{args:List AV}{L:List Blk}{k:AV->Prop}(h:ac P f args L (λav L'=>av=v/\L'=L))(a:k v):XD P f args L k:=⟨v,h,a⟩
def IsB:Option AV->Bool->Prop:=λo q=>o=some (.bool q)
theorem nE{q:Bool}:IsB (some (.bool q)) q:=rfl
def IsX(x:Opd)(q:Bool)(T:Tm):Prop:=IsB (evX T x) q
def XA(k:Tm->Prop)(d:Option Nat)(T:Tm)(v:AV):Prop:=k (bz d v T)
def abe(P:Program)(f:FuncId)(L:List Blk)(k:AV->Prop):Option (List AV)->Prop
 |some args=>XD P f args L k
 |none=>False
def T5(P:Program)(L:List Blk)(k:AV->Prop):Option AV->Option (List AV)->Prop
 |some (.func g caps),some args=>XD P g (args++caps) L k
 |_,_=>False
def aba(L:List Blk)(k:AV->Prop):Option (Prop×AV×List Blk)->Prop
 |some (c,av,L')=>c/\L'=L/\k av
 |none=>False
def GOp(P:Program)(L:List Blk)(o:aj)(k:Tm->Prop)(T:Tm):Prop :=
 match o.op with
 |.call f xs=>abe P f L (XA k o.dst T) (iI T xs)
 |.callv f xs=>T5 P L (XA k o.dst T) (evX T f) (iI T xs)
 |lo=>aba L (XA k o.dst T) (ak T L lo)
mutual
def GL(P:Program)(L:List Blk):List SOp->(Tm->Prop)->Tm->Prop
 |[],k,T=>k T
 |s::r,k,T=>GO P L s (GL P L r k) T
def GO(P:Program)(L:List Blk):SOp->(Tm->Prop)->Tm->Prop
 |.op o,k,T=>GOp P L o k T
 | .grp _ t b body d x,k,T=>match aq T t with
   |some (.bool p)=>∃q,(p=b->GL P L body (IsX x q) T)/\k ((d,.bool (mrg b p q))::T)
   |_=>False
end
def GQ(P:Program)(L:List Blk)(b:Bool)(body:List SOp)(d:Nat)(x:Opd)(k:Tm->Prop)(T:Tm)(p:Bool):Prop :=
 ∃q,(p=b->GL P L body (IsX x q) T)/\k ((d,.bool (mrg b p q))::T)
def GG(P:Program)(L:List Blk)(b:Bool)(body:List SOp)(d:Nat)(x:Opd)(k:Tm->Prop)(T:Tm):Option AV->Prop
 |some (.bool p)=>GQ P L b body d x k T p
 |_=>False
theorem aau{P:Program}{L:List Blk}{k:Tm->Prop}{T:Tm}:GL P L [] k T=k T:=by rw[GL]
theorem abd{P:Program}{L:List Blk}{o:aj}{r:List SOp}{k:Tm->Prop}{T:Tm}:GL P L (.op o::r) k T=GOp P L o (GL P L r k) T:=by rw[GL,GO]
theorem aav{P:Program}{L:List Blk}{g:Option (Nat×Bool)}{t d:Nat}{b:Bool}{body r:List SOp}{x:Opd}{k:Tm->Prop}{T:Tm}:GL P L (.grp g t b body d x::r) k T=GG P L b body d x (GL P L r k) T (aq T t):=by rw[GL,GO];rfl
theorem Y5{P:Program}{L:List Blk}{d:Nat}{b p:Bool}{body:List SOp}{x:Opd}{k:Tm->Prop}{T:Tm}:GG P L b body d x k T (some (.bool p))=GQ P L b body d x k T p:=rfl
theorem abc{P:Program}{L:List Blk}{d:Nat}{body:List SOp}{x:Opd}{k:Tm->Prop}{T:Tm}:GQ P L true body d x k T false=k ((d,.bool false)::T):=by simp[GQ,mrg]
theorem abb{P:Program}{L:List Blk}{d:Nat}{body:List SOp}{x:Opd}{k:Tm->Prop}{T:Tm}:GQ P L false body d x k T true=k ((d,.bool true)::T):=by simp[GQ,mrg]
def SL(P:Program):List SOp->(Tm->List Blk->Prop)->Tm->List Blk->Prop
 |[],K,T,L=>K T L
 | .op o::r,K,T,L=>match o.guard with
   |none=>AOp P o (SL P r K) T L
   |some (t,b)=>Grd P o (SL P r K) b T L (aq T t)
 |.grp _ t b body d x::r,K,T,L=>GG P L b body d x (λT'=>SL P r K T' L) T (aq T t)
def SK(P:Program)(r:List SOp)(K:Tm->List Blk->Prop)(L:List Blk)(T:Tm):Prop:=SL P r K T L
theorem aa6{P:Program}{r:List SOp}{K:Tm->List Blk->Prop}{L:List Blk}{T:Tm}:SK P r K L T=SL P r K T L:=rfl
theorem aaq{P:Program}{K:Tm->List Blk->Prop}{L:List Blk}{T:Tm}:SL P [] K T L=K T L:=rfl
theorem aa5{P:Program}{d:Option Nat}{op:LOp}{r:List SOp}{K:Tm->List Blk->Prop}{L:List Blk}{T:Tm}:SL P (.op ⟨d,op,none⟩::r) K T L=AOp P ⟨d,op,none⟩ (SL P r K) T L:=rfl
theorem aap{P:Program}{d:Option Nat}{op:LOp}{t:Nat}{b:Bool}{r:List SOp}{K:Tm->List Blk->Prop}{L:List Blk}{T:Tm}:SL P (.op ⟨d,op,some (t,b)⟩::r) K T L=Grd P ⟨d,op,some (t,b)⟩ (SL P r K) b T L (aq T t):=rfl
theorem aar{P:Program}{g:Option (Nat×Bool)}{t d:Nat}{b:Bool}{body r:List SOp}{x:Opd}{K:Tm->List Blk->Prop}{L:List Blk}{T:Tm}:SL P (.grp g t b body d x::r) K T L=GG P L b body d x (SK P r K L) T (aq T t):=rfl
def sel:List Bool->Tm->Tm
 |[],T=>T
 |true::m,x::T=>x::sel m T
 |false::m,_::T=>sel m T
 |_::_,[]=>[]
theorem Tn{T:Tm}:sel [] T=T:=by cases T<;>rfl
theorem Zi{m:List Bool}{x:Nat×AV}{T:Tm}:sel (true::m) (x::T)=x::sel m T:=rfl
theorem Zj{m:List Bool}{x:Nat×AV}{T:Tm}:sel (false::m) (x::T)=sel m T:=rfl
section
variable {P:Program}{ro:Option Nat}{w0:World}{S0:SB}{N:Nat}
def Fr(ds:List Nat)(T:Tm):Prop:=∀d∈ds,aq T d=none
theorem mX{d:Option Nat}{v:AV}{T:Tm}{t:Nat}(h:d≠some t):aq (bz d v T) t=aq T t:=by
 cases d with
 |none=>rfl
 |some d=>simp only[bz,aq];rw[if_neg (λe=>h (by rw[e]))]
theorem iq{own:Nat->Nat}{ops:Array Oper}:∀{l m:List aj}{is:List Nat},bm P N own ops is=some (l++m)->∃a b,is=a++b/\bm P N own ops a=some l/\bm P N own ops b=some m
 |[],m,is,h=>⟨[],is,rfl,rfl,h⟩
 | o::l,m,is,h=>by
   cases is with
   |nil=>simp[bm]at h
   | cons i is =>
     simp only[bm]at h;split at h<;>try cases h
     rename_i f g c d;obtain⟨a,b,rfl,e,h4⟩:=iq (l:=l) (m:=m) d;refine⟨i::a,b,rfl,?_,h4⟩;simp only[bm,c,e]
theorem lR{own:Nat->Nat}{ops:Array Oper}{o:aj}{is:List Nat}(h:bm P N own ops is=some [o]):∃i,is=[i]/\me P N own ops i=some o:=by
 cases is with
 |nil=>simp[bm]at h
 | cons i is =>
   simp only[bm]at h;split at h<;>try cases h
   rename_i c d b a;cases is with
   |nil=>exact⟨i,rfl,b⟩
   | cons j is =>
     simp only[bm]at a;split at a<;>cases a
theorem Mn{own:Nat->Nat}{ops:Array Oper}{K:Tm->List Blk->Prop}{Q:Exit->Act->World->Prop}{i:Nat}{g:aj}{rest:List Nat}(s:me P N own ops i=some g){T:Tm}{L:List Blk}{E:Env}{a:Act}{w:World}(d:St w0 S0 N E T L a w)(l:g.guard=none\/∃t b,g.guard=some (t,b)/\aq T t=some (.bool b))(h:AOp P g K T L)(p:∀E' T' L' n w',E.le E'->K T' L'->St w0 S0 N E' T' L' n w'->wpOpsIn (fm ro) 0 P ops Q rest n w'):wpOpsIn (fm ro) 0 P ops Q (i::rest) a w:=by
 obtain⟨o,u,f,c,hd,k⟩:=iF s;obtain⟨A,v,y⟩:=g;simp only at f c k l;subst c;simp only[wpOpsIn,u];have r:Region.wanted o (yielded ops a.tmps)=true:=by rcases k with⟨g1,m⟩|⟨j,b,t,g1,m,g3,g4⟩;simp[Region.wanted,g1];subst g4;rcases l with l|⟨t',z,e,q⟩;cases l;cases e;have x:=kg (E:=E) (T:=T) (a:=a) (ops:=ops) d.2.1 m (by rw[d.2.2.1];exact g3);simp[Region.wanted,g1,x.1 b q]
 rw[if_pos r];exact ET f hd d h p
theorem M8{own:Nat->Nat}{ops:Array Oper}{Q:Exit->Act->World->Prop}{i:Nat}{h:aj}{rest:List Nat}(q:me P N own ops i=some h){T:Tm}{L:List Blk}{E:Env}{a:Act}{w:World}(d:St w0 S0 N E T L a w){t:Nat}{b:Bool}(e:h.guard=some (t,b))(f:aq T t=some (.bool (!b))\/aq T t=some (.tup []))(m:∀p,St w0 S0 N E (bz h.dst (.tup []) T) L p w->wpOpsIn (fm ro) 0 P ops Q rest p w):wpOpsIn (fm ro) 0 P ops Q (i::rest) a w:=by
 obtain⟨o,u,l,c,hd,g⟩:=iF q;obtain⟨v,r,x⟩:=h;simp only at l c g e m;subst c;simp only[wpOpsIn,u];have s:Region.wanted o (yielded ops a.tmps)=false:=by rcases g with⟨g1,k⟩|⟨j,y,t',g1,k,g3,g4⟩;rw[k]at e;cases e;rw[g4]at e;cases e;have n:=kg (E:=E) (T:=T) (a:=a) (ops:=ops) d.2.1 k (by rw[d.2.2.1];exact g3);rcases f with f|f;simp[Region.wanted,g1,n.1 _ f];simp[Region.wanted,g1,n.2 f]
 rw[if_neg (by simp[s])];exact⟨λ_ _=>trivial,m _ (HL d hd)⟩
def Ext(ds:List Nat)(T T':Tm):Prop:=∀t v,t∉ds->aq T t=some v->aq T' t=some v
mutual
theorem ZG{own:Nat->Nat}{ops:Array Oper}{Q:Exit->Act->World->Prop}{L:List Blk}{E:Env}{w:World}(s:SOp){g:Nat×Bool}{seen:List Nat}{is rest:List Nat}{T:Tm}{a:Act}(c:okO g seen s=true)(z:bm P N own ops is=some s.flat)(n:St w0 S0 N E T L a w)(H:aq T g.1=some (.bool (!g.2))\/aq T g.1=some (.tup []))(l:∀d∈seen,aq T d=some (.tup []))(y:∀T' q,Ext (aW s.flat) T T'->(∀d,aq T d=some (.tup [])->aq T' d=some (.tup []))->(∀d∈bH s,aq T' d=some (.tup []))->St w0 S0 N E T' L q w->wpOpsIn (fm ro) 0 P ops Q rest q w):wpOpsIn (fm ro) 0 P ops Q (is++rest) a w:=by
 have p:∀(u:Option Nat) (T:Tm) (d:Nat),aq T d=some (.tup [])->aq (bz u (.tup []) T) d=some (.tup []):=λu T d h=>by
  cases u with
  |none=>exact h
  | some u =>
    simp only[bz,aq];split
    .rfl
    .exact h
 cases s with
 | op o =>
   simp only[SOp.flat]at z y;obtain⟨i,rfl,F⟩:=lR z;simp only[okO,decide_eq_true_eq]at c;refine M8 F n (t:=g.1) (b:=g.2) c H λq B=>y _ q (λt v m C=>?_) (p _ _) (λd hd=>?_) B
   .rw[mX (λe=>m (by simp[aW,e]))];exact C
   .simp only[bH,ad0]at hd;rw[hd];simp[bz,aq]
 | grp g' t b body d x =>
   simp only[okO,abH,decide_eq_true_eq,aee,acd,act,decide_eq_false_iff_not]at c;obtain⟨⟨⟨⟨G,m⟩,K⟩,A⟩,I⟩:=c;simp only[SOp.flat]at z y;obtain⟨R,S,rfl,F,M⟩:=iq z;obtain⟨i,rfl,O⟩:=lR M;rw[abK];refine Mh body I F n (.inr (l t (by simpa using m))) aev λT' q j f r=>?_
   refine M8 O r (t:=g.1) (b:=g.2) (by simp[cT,G]) ?_ λD k=>y _ D (λt v m C=>?_) (λd hd=>p _ _ _ (f d hd)) (λd hd=>?_) k
   .exact H.imp (λh=>j _ _ A h) (λh=>f _ h)
   .rw[mX (λe=>m (by simp only[cT]at e;simp[aW,cT,e]))];exact j t v (λJ=>m (by simp only[aW,acT,abD];exact .inl J)) C
   .simp only[bH,abV]at hd;subst hd;simp[cT,bz,aq]
theorem Mh{own:Nat->Nat}{ops:Array Oper}{Q:Exit->Act->World->Prop}{L:List Blk}{E:Env}{w:World}(l:List SOp){g:Nat×Bool}{seen:List Nat}{is rest:List Nat}{T:Tm}{a:Act}(m:okB g seen l=true)(j:bm P N own ops is=some (SOp.flatL l))(k:St w0 S0 N E T L a w)(F:aq T g.1=some (.bool (!g.2))\/aq T g.1=some (.tup []))(e:∀d∈seen,aq T d=some (.tup []))(p:∀T' C,Ext (aW (SOp.flatL l)) T T'->(∀d,aq T d=some (.tup [])->aq T' d=some (.tup []))->St w0 S0 N E T' L C w->wpOpsIn (fm ro) 0 P ops Q rest C w):wpOpsIn (fm ro) 0 P ops Q (is++rest) a w:=by
 cases l with
 | nil =>
   simp only[SOp.flatL]at j p;have:is=[]:=by
    cases is with
    |nil=>rfl
    | cons i is =>
      simp only[bm]at j;split at j<;>cases j
   subst this;exact p T a (λ_ _ _ h=>h) (λ_ h=>h) k
 | cons s r =>
   simp only[okB,abH,abL,acd,bne_iff_ne]at m;obtain⟨⟨A,D⟩,O⟩:=m;simp only[SOp.flatL]at j p;obtain⟨R,S,rfl,h4,J⟩:=iq j;rw[abK];refine ZG s A h4 k F e λT' C G y I n=>?_
   have u:aq T' g.1=some (.bool (!g.2))\/aq T' g.1=some (.tup []):=by
    by_cases c:g.1∈aW s.flat
    .cases s with
     | op o =>
       simp only[aW,SOp.flat,List.filterMap_cons,List.filterMap_nil]at c;cases hd:o.dst with
       |none=>simp[hd]at c
       | some d =>
         simp[hd]at c;exact absurd c.symm (D d (by simp[bH,hd])).2
     | grp g' t b body d x =>
       simp only[okO,abH,acd,act,decide_eq_false_iff_not]at A;simp only[aW,SOp.flat,acT,abD]at c;rcases c with c|c
       .exact absurd c A.1.2
       .simp[cT]at c;exact absurd c.symm (D d (by simp[bH])).2
    .exact F.imp (G _ _ c) (y _)
   refine Mh r O J n u (λd hd=>?_) λq z H K f=>p q z (λt v B M=>?_) (λd hd=>K d (y d hd)) f
   .rcases abD.1 hd with hd|hd
    .exact I d hd
    .exact y d (e d hd)
   .simp only[aW,acT,abD,not_or]at B;exact H t v B.2 (G t v B.1 M)
end
theorem Fr.put{ds:List Nat}{T:Tm}{d:Option Nat}{v:AV}(h:Fr ds T)(hd:∀k,d=some k->k∉ds):Fr ds (bz d v T):=λk a=>by rw[mX (λe=>hd k e a)];exact h k a
mutual
theorem WU(s:SOp):∀d∈gds [s],d∈aW s.flat:=by
 cases s with
 |op o=>simp[gds]
 | grp g t b body d x =>
   intro u a;simp only[gds,ab1]at a;simp only[SOp.flat,aW,acT,abD];exact .inl a
end
theorem JH(s:SOp)(r:List SOp):gds (s::r)=gds [s]++gds r:=by cases s<;>simp[gds]
theorem JG:∀(l:List SOp),∀d∈gds l,d∈aW (SOp.flatL l)
 |[],d,h=>by simp[gds]at h
 |s::r,d,h=>by rw[JH,abD]at h;simp only[SOp.flatL,aW,acT,abD];exact h.imp (WU s d) (JG r d)
theorem QF(s:SOp):∀d∈bH s,d∈aW s.flat:=by
 cases s with
 | op o =>
   intro d hd;simp only[bH,ad0]at hd;simp[SOp.flat,aW,hd]
 | grp g t b body d x =>
   intro u a;simp only[bH,abV]at a;subst a;simp[SOp.flat,aW,cT]
mutual
theorem Z6{own:Nat->Nat}{ops:Array Oper}{Q:Exit->Act->World->Prop}{L:List Blk}(s:SOp){g:Nat×Bool}{seen:List Nat}{is rest:List Nat}{T:Tm}{a:Act}{E:Env}{w:World}{k:Tm->Prop}(hok:okO g seen s=true)(hl:bm P N own ops is=some s.flat)(hst:St w0 S0 N E T L a w)(hx:aq T g.1=some (.bool g.2))(hfr:∀d∈gds [s],aq T d=none)(h:GO P L s k T)(hK:∀E' T' a' w',E.le E'->k T'->Ext (bH s) T T'->(∀d,d∉bH s->aq T d=none->aq T' d=none)->St w0 S0 N E' T' L a' w'->wpOpsIn (fm ro) 0 P ops Q rest a' w'):wpOpsIn (fm ro) 0 P ops Q (is++rest) a w:=by
 cases s with
 | op o =>
   simp only[SOp.flat]at hl;obtain⟨i,rfl,h1⟩:=lR hl;simp only[okO,decide_eq_true_eq]at hok;simp only[GO]at h;have ext:∀v,Ext (bH (.op o)) T (bz o.dst v T):=λv t x ht hv=>by rw[mX (λe=>ht (by simp[bH,e]))];exact hv
   have fre:∀v d,d∉bH (.op o)->aq T d=none->aq (bz o.dst v T) d=none:=λv d hd hn=>by rw[mX (λe=>hd (by simp[bH,e]))];exact hn
   have hA:AOp P o (λT' L'=>L'=L/\∃v,T'=bz o.dst v T/\k T') T L:=by
    obtain⟨d,op,gd⟩:=o;have call:∀{f:FuncId}{args:List AV},XD P f args L (XA k d T)->ac P f args L (Kon (λT' L'=>L'=L/\∃v,T'=bz d v T/\k T') d T):=λ{f args} ⟨v,h1,h2⟩ =>
     h1.mono λav L' ⟨e1,e2⟩=>by subst e1;subst e2;exact⟨rfl,av,rfl,h2⟩
    simp only[GOp]at h;simp only[AOp];cases op
    case call f xs =>
     simp only at h⊢;cases he:iI T xs with
     |none=>rw[he]at h;exact h.elim
     |some args=>rw[he]at h;exact call h
    case callv f xs =>
     simp only at h⊢;cases hf:evX T f with
     |none=>rw[hf]at h;exact h.elim
     | some u =>
       rw[hf]at h;cases he:iI T xs with
       |none=>rw[he]at h;cases u<;>exact h.elim
       | some args =>
         rw[he]at h;cases u<;>simp only[T5]at h;exact call h
    all_goals
     simp only at h⊢;generalize ak T L _=r at h⊢;cases r with
     |none=>exact h.elim
     | some r =>
       obtain⟨c,av,L'⟩:=r;exact⟨h.1,h.2.1,av,rfl,h.2.2⟩
   refine Mn h1 hst (.inr ⟨g.1,g.2,hok,hx⟩) hA λE' T' L' a' w' hle ⟨e1,v,e2,hk⟩ hst'=>?_
   subst e1;subst e2;exact hK E' _ a' w' hle hk (ext v) (fre v) hst'
 | grp g' t b body d x =>
   simp only[okO,abH,decide_eq_true_eq,acd,act,decide_eq_false_iff_not]at hok;obtain⟨⟨⟨⟨hg',ht⟩,htb⟩,hgb⟩,hb⟩:=hok;simp only[SOp.flat]at hl;obtain⟨js,ks,rfl,h1,h2⟩:=iq hl;obtain⟨i,rfl,h3⟩:=lR h2;rw[abK];simp only[GO]at h;have hfr':Fr (aW (SOp.flatL body)) T:=λd' hd'=>hfr d' (by simp[gds,hd'])
   have fin:∀{E':Env}{T':Tm}{a':Act}{w':World}(p q:Bool),E.le E'->St w0 S0 N E' T' L a' w'->Ext (aW (SOp.flatL body)) T T'->aq T t=some (.bool p)->(p=b->evX T' x=some (.bool q))->k ((d,.bool (mrg b p q))::T)->wpOpsIn (fm ro) 0 P ops Q ([i]++rest) a' w':=λ{E' T' a' w'} p q hle hst' hext hp hq hk=>by
    have hv:ak T' L (.pick (.tmp t) (if b then x else .av (.bool true)) (if b then .av (.bool false)else x))=some (True,.bool (mrg b p q),L):=by have ht':aq T' t=some (.bool p):=hext _ _ htb hp;cases b<;>cases p<;>simp[ak,evX,ht',mrg]<;>exact hq rfl
    refine Mn h3 hst' (.inr ⟨g.1,g.2,by simp[cT,hg'],hext _ _ hgb hx⟩) (K:=λT'' L''=>T''=(d,.bool (mrg b p q))::T'/\L''=L) ?_ λE'' T'' L'' a'' w'' hle' ⟨e1,e2⟩ hst''=>?_
    .simp only[cT,AOp,hv,Res,bz,and_self]
    .subst e1;subst e2;refine hK E'' ((d,.bool (mrg b p q))::T) a'' w'' (hle.trans hle') hk (λu v hu hv=>?_) (λu hu hn=>?_) ⟨hst''.1,hst''.2.1.weak λu v hu=>?_,hst''.2.2⟩
     .simp only[bH,abV]at hu;simp only[aq];rw[if_neg (Ne.symm hu)];exact hv
     .simp only[bH,abV]at hu;simp only[aq];rw[if_neg (Ne.symm hu)];exact hn
     .simp only[aq]at hu⊢;split
      .rename_i e;rw[if_pos e]at hu;exact hu
      .rename_i e;rw[if_neg e]at hu;refine hext u v (λhm=>?_) hu;rw[hfr' u hm]at hu;cases hu
   rcases hp:aq T t with _|u
   .rw[hp]at h;exact h.elim
   rw[hp]at h;cases u<;>try exact h.elim
   rename_i p;obtain⟨q,hq,hk⟩:=h;by_cases e:p=b
   .subst e;refine PR body hb h1 hst hp (λd hd=>hfr' d (JG body d hd)) (hq rfl) λE' T' a' w' hle hx' hext hst'=>fin p q hle hst' hext hp (λ_=>hx') hk
   .have:p = !b:=(by cases p<;>cases b<;>simp_all);refine Mh body hb h1 hst (.inl (by rw[hp,this])) aev λT' a' hext _ hst'=>fin p q (.refl E) hst' hext hp (λe'=>absurd e' e) hk
theorem PR{own:Nat->Nat}{ops:Array Oper}{Q:Exit->Act->World->Prop}{L:List Blk}(l:List SOp){g:Nat×Bool}{seen:List Nat}{is rest:List Nat}{T:Tm}{a:Act}{E:Env}{w:World}{k:Tm->Prop}(o:okB g seen l=true)(e:bm P N own ops is=some (SOp.flatL l))(m:St w0 S0 N E T L a w)(G:aq T g.1=some (.bool g.2))(c:Fr (gds l) T)(h:GL P L l k T)(F:∀E' T' B w',E.le E'->k T'->Ext (aW (SOp.flatL l)) T T'->St w0 S0 N E' T' L B w'->wpOpsIn (fm ro) 0 P ops Q rest B w'):wpOpsIn (fm ro) 0 P ops Q (is++rest) a w:=by
 cases l with
 | nil =>
   simp only[SOp.flatL]at e;have:is=[]:=by
    cases is with
    |nil=>rfl
    | cons i is =>
      simp only[bm]at e;split at e<;>cases e
   subst this;rw[GL]at h;exact F E T a w (.refl E) h (λ_ _ _ h=>h) m
 | cons s r =>
   simp only[okB,abH,abL,acd,bne_iff_ne,act,decide_eq_false_iff_not]at o;obtain⟨⟨O,D⟩,R⟩:=o;simp only[SOp.flatL]at e;obtain⟨S,U,rfl,h4,J⟩:=iq e;rw[abK];rw[GL]at h;rw[JH]at c;refine Z6 s O h4 m G (λd hd=>c d (ac3 _ hd)) h λE' T' B w' C u H M p=>?_
   refine PR r R J p (H _ _ (λf=>(D _ f).2 rfl) G) (λd hd=>M d (λf=>(D d f).1 hd) (c d (adj _ hd))) u λx q z y n j I b=>F x q z y (C.trans n) j (λt v A K=>?_) b
   simp only[SOp.flatL,aW,acT,abD,not_or]at A;exact I t v A.2 (H t v (λf=>A.1 (QF s t f)) K)
end
theorem Zc{o:aj}{K:Tm->List Blk->Prop}{T:Tm}{L:List Blk}(h:AOp P o K T L):AOp P o (λT' L'=>K T' L'/\∃v,T'=bz o.dst v T) T L:=by
 obtain⟨d,op,gd⟩:=o;have call:∀{f:FuncId}{args:List AV},ac P f args L (Kon K d T)->ac P f args L (Kon (λT' L'=>K T' L'/\∃v,T'=bz d v T) d T):=λ{f args} h=>h.mono λav L' h=>⟨h,av,rfl⟩
 simp only[AOp]at h⊢;cases op
 case call f xs =>
  simp only at h⊢;cases he:iI T xs with
  |none=>rw[he]at h;exact h.elim
  |some args=>rw[he]at h;exact call h
 case callv f xs =>
  simp only at h⊢;cases hf:evX T f with
  |none=>rw[hf]at h;cases he:iI T xs<;>rw[he]at h<;>exact h.elim
  | some u =>
    rw[hf]at h;cases he:iI T xs with
    |none=>rw[he]at h;cases u<;>exact h.elim
    | some args =>
      rw[he]at h;cases u<;>simp only[Vo]at h
      case yld i=>exact OL.mono h λav L' h=>⟨h,av,rfl⟩
      exact call h
 all_goals
  simp only at h⊢;generalize ak T L _=r at h⊢;cases r with
  |none=>exact h.elim
  |some r=>exact⟨h.1,h.2,r.2.1,rfl⟩
theorem CD{own:Nat->Nat}{ops:Array Oper}{Q:Exit->Act->World->Prop}{K:Tm->List Blk->Prop}:∀(l:List SOp){is:List Nat}{T:Tm}{L:List Blk}{a:Act}{E:Env}{w:World},okS l=true->bm P N own ops is=some (SOp.flatL l) ->
  St w0 S0 N E T L a w->Fr (gds l) T->SL P l K T L->(∀E' T' L' y w',E.le E'->K T' L'->St w0 S0 N E' T' L' y w'->Q .normal y w')->wpOpsIn (fm ro) 0 P ops Q is a w
 | [],is,T,L,a,E,w,hok,hl,hst,hfr,h,hK=>by
   simp only[SOp.flatL]at hl;have:is=[]:=by
    cases is with
    |nil=>rfl
    | cons i is =>
      simp only[bm]at hl;split at hl<;>cases hl
   subst this;exact hK E T L a w (.refl E) h hst
 | .op o::r,is,T,L,a,E,w,hok,hl,hst,hfr,h,hK=>by
   simp only[okS,abH,abL,ad0,acd,act,decide_eq_false_iff_not]at hok;simp only[SOp.flatL,SOp.flat,adN]at hl;obtain⟨js,X,rfl,Y,h2⟩:=iq (l:=[o]) hl;obtain⟨i,rfl,Z⟩:=lR Y;have D:∀v,Fr (gds r) (bz o.dst v T):=λv=>Fr.put (ds:=gds r) hfr λk F=>hok.1 k F
   have V:(o.guard=none\/∃t b,o.guard=some (t,b)/\aq T t=some (.bool b))->AOp P o (SL P r K) T L->wpOpsIn (fm ro) 0 P ops Q ([i]++X) a w:=λm h =>
    Mn Z hst m (Zc h) λE' T' L' y w' s ⟨hs,v,e⟩ c=>by subst e;exact CD r hok.2 h2 c (D v) hs λS z A R U n=>hK S z A R U (s.trans n)
   have G:∀t b,o.guard=some (t,b)->(aq T t=some (.bool (!b))\/aq T t=some (.tup []))->SL P r K (bz o.dst (.tup []) T) L->wpOpsIn (fm ro) 0 P ops Q ([i]++X) a w:=λt b m J h =>
    M8 Z hst m J λy c=>CD r hok.2 h2 c (D _) h hK
   rw[SL]at h;rcases m:o.guard with _|⟨t,b⟩
   .rw[m]at h;exact V (.inl m) h
   .rw[m]at h;simp only at h;rcases J:aq T t with _|u
    .rw[J]at h;exact h.elim
    rw[J]at h;cases u<;>try exact h.elim
    .rename_i x;rw[xI]at h;by_cases e:x=b
     .rw[if_pos e]at h;exact V (.inr ⟨t,b,m,by rw[J,e]⟩) h
     .rw[if_neg e]at h;have:x = !b:=(by cases x<;>cases b<;>simp_all);exact G t b m (.inl (by rw[J,this])) h
    .rename_i l;cases l with
     |cons _ _=>exact h.elim
     |nil=>exact G t b m (.inr J) h
 | .grp g t b body d x::r,is,T,L,a,E,w,hok,hl,hst,hfr,h,hK=>by
   simp only[okS,abH,decide_eq_true_eq,acd,act,decide_eq_false_iff_not]at hok;obtain⟨⟨⟨⟨m,ai⟩,hb⟩,hd⟩,hr⟩:=hok;simp only[SOp.flatL,SOp.flat,abK]at hl;obtain⟨js,ap,rfl,Y,h2⟩:=iq hl;obtain⟨an,X,rfl,al,h4⟩:=iq h2;obtain⟨i,rfl,Z⟩:=lR al;rw[SL]at h;have B:Fr (aW (SOp.flatL body)) T:=λd' I=>hfr d' (by simp[gds,I])
   have M:Fr (gds r) T:=λd' I=>hfr d' (by simp[gds,I])
   have W:∀{E':Env}{T':Tm}{y:Act}{w':World}(p q:Bool),E.le E'->St w0 S0 N E' T' L y w'->Ext (aW (SOp.flatL body)) T T'->aq T t=some (.bool p)->(p=b->evX T' x=some (.bool q))->SL P r K ((d,.bool (mrg b p q))::T) L->wpOpsIn (fm ro) 0 P ops Q ([i]++X) y w':=λ{E' T' y w'} p q s c f C hq F=>by
    have hv:ak T' L (.pick (.tmp t) (if b then x else .av (.bool true)) (if b then .av (.bool false)else x))=some (True,.bool (mrg b p q),L):=by have ad:aq T' t=some (.bool p):=f _ _ ai C;cases b<;>cases p<;>simp[ak,evX,ad,mrg]<;>exact hq rfl
    refine Mn Z c (.inl (by simp[cT,m])) (K:=λz A=>z=(d,.bool (mrg b p q))::T'/\A=L) ?_ λS z A R U n ⟨e1,e2⟩ j=>?_
    .simp only[cT,AOp,hv,Res,bz,and_self]
    .subst e1;subst e2;refine CD r hr h4 (T:=(d,.bool (mrg b p q))::T) ⟨j.1,j.2.1.weak λu v H=>?_,j.2.2⟩ (Fr.put (d:=some d) M λk F=>by cases F;exact hd) F λE3 T3 L3 a3 w3 O=>hK E3 T3 L3 a3 w3 ((s.trans n).trans O)
     simp only[aq]at H⊢;split
     .rename_i e;rw[if_pos e]at H;exact H
     .rename_i e;rw[if_neg e]at H;refine f u v (λhm=>?_) H;rw[B u hm]at H;cases H
   rcases C:aq T t with _|u
   .rw[C]at h;exact h.elim
   rw[C]at h;cases u<;>try exact h.elim
   rename_i p;obtain⟨q,hq,F⟩:=h;by_cases e:p=b
   .subst e;exact PR body hb Y hst C (λd hd=>B d (JG body d hd)) (hq rfl) λE' T' y w' s ab f c=>W p q s c f C (λ_=>ab) F
   .have:p = !b:=(by cases p<;>cases b<;>simp_all);exact Mh body hb Y hst (.inl (by rw[C,this])) aev λT' y f _ c=>W p q (.refl E) c f C (λe'=>absurd e' e) F
end
theorem YM{p b:Bool}(h:¬p=b):p = !b:=by cases p<;>cases b<;>simp_all
mutual
def PH(g:Option (Nat×Bool))(seen D:List Nat):SOp->Bool
 |.op o=>decide (o.guard=g)&&o.reads.all (λt => !D.contains t)
 |.grp g' t b body d x=>decide (g'=g)&&(g.isNone ||seen.contains t) && !D.contains t && !(aW (SOp.flatL body)).contains t&&(match g with|some g1 => !(aW (SOp.flatL body)).contains g1.1|none=>true) &&
  x.tmps.all (λt => !(D++gds body).contains t)&&okG (some (t,b)) [] D body
def okG(g:Option (Nat×Bool))(seen D:List Nat):List SOp->Bool
 |[]=>true
 |s::r=>PH g seen D s&&(bH s).all (λd => !(D++gds [s]).contains d && !(gds r).contains d&&(match g with|some g1=>d != g1.1|none=>true))&&okG g (bH s++seen) (D++gds [s]) r
end
section
variable {P:Program}{L:List Blk}{K:Tm->List Blk->Prop}
def AR(P:Program)(K:Tm->List Blk->Prop)(l:List aj)(L:List Blk)(T:Tm):Prop:=AG P K (l.map λo=>(o,.read 0 0)) [L] [] T
theorem aaA{T:Tm}(h:K T L):AR P K [] L T:=h
theorem My{o:aj}{r:List aj}{T:Tm}{v:AV}(c:AQ P o T L v)(b:AR P K r L (bz o.dst v T)):AR P K (o::r) L T:=by refine⟨v,λL' a=>?_,b⟩;simp at a;subst a;exact c
def Agr(D:List Nat)(T T1:Tm):Prop:=∀t,t∉D->aq T1 t=aq T t
theorem Agr.put{D:List Nat}{T T1:Tm}(h:Agr D T T1)(d:Option Nat)(v:AV):Agr D (bz d v T) (bz d v T1):=λt a=>by
 cases d with
 |none=>exact h t a
 |some d=>simp only[bz,aq];split;rfl;exact h t a
theorem QU{d:Option Nat}{T:Tm}{t:Nat}(h:aq T t=some (.tup [])):aq (bz d (.tup []) T) t=some (.tup []):=by
 cases d with
 |none=>exact h
 |some d=>simp only[bz,aq];split;rfl;exact h
mutual
theorem YX(s:SOp){g:Nat×Bool}{seen D:List Nat}{rest:List aj}{T:Tm}(a:PH (some g) seen D s=true)(f:aq T g.1=some (.bool (!g.2))\/aq T g.1=some (.tup []))(h:∀d∈seen,aq T d=some (.tup []))(n:∀T',(∀t,t∉aW s.flat->aq T' t=aq T t)->(∀d,aq T d=some (.tup [])->aq T' d=some (.tup []))->(∀d∈bH s,aq T' d=some (.tup []))->AR P K rest L T'):AR P K (s.flat++rest) L T:=by
 have c:∀(o:aj) (T:Tm),o.guard=some g->(aq T g.1=some (.bool (!g.2))\/aq T g.1=some (.tup []))->AQ P o T L (.tup []):=λo T p f=>by obtain⟨t,b⟩:=g;simp only[AQ,p];rcases f with f|f<;>simp only at f<;>rw[f]<;>simp
 cases s with
 | op o =>
   simp only[PH,abH,decide_eq_true_eq]at a;refine My (c o T a.1 f) (n _ (λt k=>mX λe=>k (by simp[SOp.flat,aW,e])) (λd hd=>QU hd) λd hd=>?_);simp only[bH,ad0]at hd;rw[hd];simp[bz,aq]
 | grp g' t b body d x =>
   simp only[PH,abH,decide_eq_true_eq,Option.isNone_some,adw,acd,act,decide_eq_false_iff_not]at a;obtain⟨⟨⟨⟨⟨⟨l,k⟩,_⟩,y⟩,j⟩,_⟩,q⟩:=a;simp only[SOp.flat,abK];refine Oe body q (.inr (h t (by simpa using k))) aev λT' m w=>?_
   refine My (o:=cT g' t b d x) (v:=.tup []) (c _ T' (by simp[cT,l]) (by rw[m _ j];exact f)) (n _ (λu i=>?_) (λu i=>QU (w u i)) λu i=>?_)
   .rw[mX (λe=>i (by simp only[cT]at e;simp[SOp.flat,aW,cT,e]))];exact m u λr=>i (by simp only[SOp.flat,aW,acT,abD];exact .inl r)
   .simp only[bH,abV]at i;subst i;simp[cT,bz,aq]
theorem Oe(l:List SOp){g:Nat×Bool}{seen D:List Nat}{rest:List aj}{T:Tm}(e:okG (some g) seen D l=true)(u:aq T g.1=some (.bool (!g.2))\/aq T g.1=some (.tup []))(c:∀d∈seen,aq T d=some (.tup []))(q:∀T',(∀t,t∉aW (SOp.flatL l)->aq T' t=aq T t)->(∀d,aq T d=some (.tup [])->aq T' d=some (.tup []))->AR P K rest L T'):AR P K (SOp.flatL l++rest) L T:=by
 cases l with
 |nil=>exact q T (λ_ _=>rfl) (λ_ h=>h)
 | cons s r =>
   simp only[okG,abH,abL,acd,bne_iff_ne]at e;obtain⟨⟨j,p⟩,z⟩:=e;simp only[SOp.flatL,abK];refine YX s j u c λT' n i w=>?_
   have m:aq T' g.1=some (.bool (!g.2))\/aq T' g.1=some (.tup []):=by
    by_cases a:g.1∈aW s.flat
    .cases s with
     | op o =>
       simp only[aW,SOp.flat,List.filterMap_cons,List.filterMap_nil]at a;cases hd:o.dst with
       |none=>simp[hd]at a
       | some d =>
         simp[hd]at a;exact absurd a.symm (p d (by simp[bH,hd])).2
     | grp g' t b body d x =>
       simp only[PH,abH,acd,act,decide_eq_false_iff_not]at j;simp only[aW,SOp.flat,acT,abD]at a;rcases a with a|a
       .exact absurd a j.1.1.2
       .simp[cT]at a;exact absurd a.symm (p d (by simp[bH])).2
    .exact u.imp (λh=>by rw[n _ a];exact h) (i _)
   refine Oe r z m (λd hd=>?_) λf v y=>q f (λt k=>?_) (λd hd=>y d (i d hd))
   .rcases abD.1 hd with hd|hd
    .exact w d hd
    .exact i d (c d hd)
   .simp only[SOp.flatL,aW,acT,abD,not_or]at k;rw[v t k.2,n t k.1]
end
def Jt(l:List SOp):List Nat:=l.flatMap bH
theorem O5:∀(l:List SOp),∀d∈Jt l,d∈aW (SOp.flatL l)
 |[],d,h=>by simp[Jt]at h
 |s::r,d,h=>by simp only[Jt,ady,abD]at h;simp only[SOp.flatL,aW,acT,abD];exact h.imp (QF s d) (O5 r d)
theorem aat{o:aj}{k:Tm->Prop}{T:Tm}(h:GOp P L o k T):∃v,AQv P o T L v/\k (bz o.dst v T):=by
 obtain⟨d,op,gd⟩:=o;simp only[GOp]at h;unfold AQv;cases op
 case call f xs =>
  simp only at h⊢;cases he:iI T xs with
  |none=>rw[he]at h;exact h.elim
  |some args=>rw[he]at h;obtain⟨v,h1,h2⟩:=h;exact⟨v,h1,h2⟩
 case callv f xs =>
  simp only at h⊢;cases hf:evX T f with
  |none=>rw[hf]at h;exact h.elim
  | some u =>
    rw[hf]at h;cases he:iI T xs with
    |none=>rw[he]at h;cases u<;>exact h.elim
    | some args =>
      rw[he]at h;cases u<;>simp only[T5]at h;obtain⟨v,h1,h2⟩:=h;exact⟨v,h1,h2⟩
 all_goals
  simp only at h⊢;generalize ak T L _=r at h⊢;cases r with
  |none=>exact h.elim
  | some r =>
    obtain⟨c,av,L'⟩:=r;exact⟨av,⟨h.1,rfl,h.2.1⟩,h.2.2⟩
mutual
theorem aah(s:SOp){g:Option (Nat×Bool)}{seen D:List Nat}{rest:List aj}{T T1:Tm}{k:Tm->Prop}(f:PH g seen D s=true)(Y:∀g1,g=some g1->g1.1∉D/\aq T g1.1=some (.bool g1.2))(V:∀d∈gds [s],aq T d=none)(G:Agr D T T1)(h:GO P L s k T)(O:∀T' A,k T'->Agr (D++gds [s]) T' A->(∀t,t∉bH s->aq T' t=aq T t)->AR P K rest L A):AR P K (s.flat++rest) L T1:=by
 cases s with
 | op o =>
   simp only[PH,abH,decide_eq_true_eq,abL,acd,act,decide_eq_false_iff_not]at f;simp only[GO]at h;obtain⟨v,j,r⟩:=aat h;have m:AQ P o T L v:=by
    unfold AQ;rw[f.1];cases g with
    |none=>exact j
    | some g1 =>
      obtain⟨t,b⟩:=g1;have:=(Y _ rfl).2;simp only at this⊢;rw[this];simp[j]
   refine My (m.congr λt C=>(G t (f.2 t C)).symm) (O _ _ r (λt C=>?_) λt C=>mX λe=>C (by simp[bH,e]));exact(G.put _ _) t λy=>C (ac3 _ y)
 | grp g' t b body d x =>
   simp only[PH,abH,decide_eq_true_eq,abL,acd,act,decide_eq_false_iff_not]at f;obtain⟨⟨⟨⟨⟨⟨F,_⟩,n⟩,M⟩,J⟩,S⟩,W⟩:=f;simp only[GO]at h;have z:∀u∈aW (SOp.flatL body),aq T u=none:=λu i=>V u (by simp[gds,i])
   have Q:gds [SOp.grp g' t b body d x]=aW (SOp.flatL body):=(by simp[gds]);rw[Q]at O;simp only[SOp.flat,abK];have B:∀{c:Tm}(p q:Bool),aq T t=some (.bool p)->(∀u,u∉D->u∉aW (SOp.flatL body)->aq c u=aq T u)->(p=b->evX c x=some (.bool q))->k ((d,.bool (mrg b p q))::T)->AR P K ([cT g' t b d x]++rest) L c:=λ{c} p q l I m H=>by
    have hv:ak c L (.pick (.tmp t) (if b then x else .av (.bool true)) (if b then .av (.bool false)else x))=some (True,.bool (mrg b p q),L):=by have U:aq c t=some (.bool p):=(by rw[I t n M];exact l);cases b<;>cases p<;>simp[ak,evX,U,mrg]<;>exact m rfl
    have w:AQv P (cT g' t b d x) c L (.bool (mrg b p q)):=by simp only[AQv,cT,hv,and_self]
    have m:AQ P (cT g' t b d x) c L (.bool (mrg b p q)):=by
     unfold AQ;cases g with
     |none=>simp only[cT,F];exact w
     | some g1 =>
       obtain⟨X,b1⟩:=g1;have j:=Y _ rfl;simp only[cT,F];rw[show aq c X=some (.bool b1)by rw[I X j.1 (by simpa using J)];exact j.2];simp;exact w
    refine My m (O ((d,.bool (mrg b p q))::T) _ H (λu i=>?_) λu i=>?_)
    .simp only[abD,not_or]at i;simp only[cT,bz,aq];split
     .rfl
     .exact I u i.1 i.2
    .simp only[bH,abV]at i;simp only[aq];rw[if_neg (Ne.symm i)]
   rcases l:aq T t with _|u
   .rw[l]at h;exact h.elim
   rw[l]at h;cases u<;>try exact h.elim
   rename_i p;obtain⟨q,m,H⟩:=h;by_cases e:p=b
   .subst e;refine P7 body W (λg1 e=>by cases e;exact⟨n,l⟩) (λu i=>z u (JG body u i)) G (m rfl) λTb c N E R=>B p q l (λu j r=>?_) (λ_=>?_) H
    .rw[E u (by simp only[abD,not_or];exact⟨j,λy=>r (JG body u y)⟩)];exact R u λy=>r (O5 body u y)
    .have hxb':evX Tb x=some (.bool q):=N;rw[<- hxb'];cases x with
     |av a=>rfl
     |tmp t'=>exact E t' (by have:=S t' (by simp[Opd.tmps]);simpa using this)
   .have:p = !b:=YM e;refine Oe body W (.inl (by show aq T1 t=_;rw[G t n,l,this])) aev λc j _=>B p q l (λu r h3=>?_) (λZ=>absurd Z e) H
    rw[j u h3,G u r]
theorem P7(l:List SOp){g:Option (Nat×Bool)}{seen D:List Nat}{rest:List aj}{T T1:Tm}{k:Tm->Prop}(j:okG g seen D l=true)(A:∀g1,g=some g1->g1.1∉D/\aq T g1.1=some (.bool g1.2))(e:∀d∈gds l,aq T d=none)(z:Agr D T T1)(h:GL P L l k T)(w:∀T' c,k T'->Agr (D++gds l) T' c->(∀t,t∉Jt l->aq T' t=aq T t)->AR P K rest L c):AR P K (SOp.flatL l++rest) L T1:=by
 cases l with
 | nil =>
   rw[GL]at h;exact w T T1 h (by simpa[gds]using z) (λ_ _=>rfl)
 | cons s r =>
   simp only[okG,abH,abL,acd,act,decide_eq_false_iff_not]at j;obtain⟨⟨y,i⟩,I⟩:=j;have E:∀d∈bH s,d∉gds r:=λd hd=>(i d hd).1.2
   simp only[SOp.flatL,abK];rw[GL]at h;rw[JH]at e w;refine aah s y A (λd hd=>e d (ac3 _ hd)) z h λT' c G H n=>?_
   refine P7 r I (λg1 B=>?_) (λd hd=>?_) H G λu f v C F=>w u f v (by rwa[abK]at C) λt p=>?_
   .subst B;have m:g1.1∉bH s:=λa=>by have:=(i _ a).2;simp at this
    have q:g1.1∉gds [s]:=λa=>by
     cases s with
     |op o=>simp[gds]at a
     | grp g' t b body d x =>
       simp only[PH,abH,acd,act,decide_eq_false_iff_not]at y;simp only[gds,ab1]at a;exact y.1.1.2 a
    have h4:=A g1 rfl;exact⟨by simp only[abD,not_or];exact⟨h4.1,q⟩,by rw[n _ m];exact h4.2⟩
   .rw[n d (λa=>E d a hd)];exact e d (adj _ hd)
   .simp only[Jt,ady,abD,not_or]at p;rw[F t p.2,n t p.1]
end
theorem QG:∀(l:List SOp){g:Option (Nat×Bool)}{seen D:List Nat},okG g seen D l=true->∀t∈Jt l,t∉D++gds l
 |[],_,_,_,_,t,h=>by simp[Jt]at h
 | s::r,g,seen,D,hok,t,h=>by
   simp only[okG,abH,abL,acd,act,decide_eq_false_iff_not]at hok;obtain⟨⟨c,a⟩,b⟩:=hok;rw[JH];simp only[Jt,ady,abD]at h;rcases h with h|h
   .have:=(a t h).1;simp only[abD,not_or]at this⊢;exact⟨this.1.1,this.1.2,this.2⟩
   .have:=QG r b t h;simp only[abD,not_or]at this⊢;exact⟨this.1.1,this.1.2,this.2⟩
theorem Vf{l:List SOp}{T:Tm}{k:Tm->Prop}(b:okG none [] [] l=true)(a:Fr (gds l) T)(h:GL P L l k T):AR P (λT1 L'=>L'=L/\∃T',k T'/\∀t v,aq T' t=some v->aq T1 t=some v) (SOp.flatL l) L T:=by
 have:=P7 (K:=λT1 L'=>L'=L/\∃T',k T'/\∀t v,aq T' t=some v->aq T1 t=some v) (rest:=[]) l b (λ_ e=>by cases e) a (T1:=T) (λ_ _=>rfl) h λT' m j g i=>aaA ⟨rfl,T',j,λt v d=>?_⟩
 simpa using this;by_cases c:t∈gds l;by_cases f:t∈Jt l;exact absurd (by simpa using c) (QG l b t f);rw[i t f,a t c]at d;cases d;rw[g t (by simpa using c)];exact d
end
section
variable {P:Program}{r:Option Nat}{w0:World}{S0:SB}{N:Nat}
inductive aS where
 |skip
 |sreg (sops:List SOp) (mask:List Bool)
 |sdreg (sops:List SOp) (kds:List Kd) (mask:List Bool)
 |dregM (qk:List (aj×Kd)) (ts:List aj) (mask:List Bool)
 |region (ops:List aj)
 |dregion (qk:List (aj×Kd)) (ts:List aj)
 |seq (a b:aS)
 |cond (c:Opd) (a b:aS)
 |block (id:Nat) (c:aS)
 |loop (c:aS)
 |exit (id:Nat)
 |ret
 |rangeF (g:Opd) (ps:List Nat) (x y:aS)
 |scope (c:aS)
 |label
 deriving Inhabited
def aS.raw:aS->aS
 |.sreg s _=>.region (SOp.flatL s)
 |.dregM qk ts _=>.dregion qk ts
 |.sdreg s kds _=>.dregion ((SOp.flatL s).zip kds) ((SOp.flatL s).drop kds.length)
 |.seq a b=>.seq a.raw b.raw
 |.cond c a b=>.cond c a.raw b.raw
 |.block id c=>.block id c.raw
 |.loop c=>.loop c.raw
 |.rangeF g ps x y=>.rangeF g ps x.raw y.raw
 |.scope c=>.scope c.raw
 |c=>c
def aS.hasRF:aS->Bool
 |.seq a b=>a.hasRF ||b.hasRF
 |.cond _ a b=>a.hasRF ||b.hasRF
 |.block _ c=>c.hasRF
 |.loop c=>c.hasRF
 |.scope c=>c.hasRF
 |.rangeF ..=>true
 |_=>false
theorem aS.hasRF_raw:∀c:aS,c.raw.hasRF=c.hasRF
 |.seq a b=>by simp[aS.raw,aS.hasRF,hasRF_raw a,hasRF_raw b]
 |.cond c a b=>by simp[aS.raw,aS.hasRF,hasRF_raw a,hasRF_raw b]
 |.block _ c=>by simp[aS.raw,aS.hasRF,hasRF_raw c]
 |.loop c=>by simp[aS.raw,aS.hasRF,hasRF_raw c]
 |.scope c=>by simp[aS.raw,aS.hasRF,hasRF_raw c]
 |.rangeF ..=>rfl
 |.skip|.label|.sreg .. |.sdreg .. |.dregM .. |.region .. |.dregion .. |.exit .. |.ret=>rfl
def LOp.effB:LOp->Bool
 |.alloc _|.box _|.s2bO _|.s2bG _|.rangeS _|.nextS _|.store .. |.mkslice .. |.app .. |.appz .. |.copy .. |.clear .. |.mkmap|.mset .. |.mdel .. |.mclr _|.mrange _|.mnext _=>true
 |.bslice own ..=>own
 |_=>false
def aaQ(own:Nat->Nat)(i:Nat)(o:aj):Bool:=o.op.effB ||own i == 3
def ZY(eff:Nat->aj->Bool)(tbl:List Nat)(es:List Nat)(i:Nat)(o:aj):Kd :=
 if o.op.pureB=true then .pure else if eff i o=true then .eff
 else .read (es.filter λe=>decide (e<i) && !(tbl.getD i 0).testBit e).length (es.filter λe=>decide (i<e) && !(tbl.getD e 0).testBit i).length
def PL(eff:Nat->aj->Bool)(tbl:List Nat)(qs:List aj):List (aj×Kd):=
 let es:=(qs.zipIdx.filter λp=>eff p.2 p.1).map (·.2)
 qs.zipIdx.map λp=>(p.1,ZY eff tbl es p.2 p.1)
theorem QW(a:Nat->aj->Bool)(tbl:List Nat)(qs:List aj):(PL a tbl qs).map (·.1)=qs:=by simp[PL,abW,Function.comp_def]
def aF(P:Program)(N:Nat)(own:Nat->Nat->Nat):Code->Option aS
 |.skip=>some .skip
 |.region id ops false=>(bm P N (own id) ops (List.range ops.size)).map .region
 | .region id ops true=>(bm P N (own id) ops (List.range ops.size)).bind fun los =>
   let n:=Po (nq ops.toList []) 0 los.length
   let qk:=PL (aaQ (own id)) (nq ops.toList []) (los.take n)
   if(Er ops los n&&decide (n<=los.length)&&P.follows .mixedOrders&&Kh (nq ops.toList []) qk)=true then some (.dregion qk (los.drop n))else none
 | .seq a b=>match aF P N own a,aF P N own b with
   |some x,some y=>some (.seq x y)
   |_,_=>none
 | .cond c a b=>match aY c,aF P N own a,aF P N own b with
   |some c,some x,some y=>some (.cond c x y)
   |_,_,_=>none
 |.block id c=>(aF P N own c).map (.block id)
 |.loop c=>(aF P N own c).map .loop
 |.exit id=>some (.exit id)
 |.ret=>some .ret
 |.scope c=>(aF P N own c).map .scope
 |.label _=>some .label
 | .rangeFunc g ps x y=>match aY g,aF P N own x,aF P N own y with
   |some g,some x,some y=>if(!x.hasRF && !y.hasRF&&ps.all λp=>decide (p<N))=true then some (.rangeF g ps.toList x y)else none
   |_,_,_=>none
 |_=>none
structure Bs(w0:World)(S0:SB)(w1:World)(S1:SB):Prop where
 size:w0.heap.size<=w1.heap.size
 fr:∀k,k<w0.heap.size->¬S0 k->¬S1 k/\w1.heap[k]?=w0.heap[k]?
 sub:∀k,S1 k->S0 k\/w0.heap.size<=k
 os:w1.os=w0.os
 tape:w1.tape=w0.tape
 output:w1.output=w0.output
 low:S1.B=S0.B
theorem Bs.refl(w0:World)(S0:SB):Bs w0 S0 w0 S0:=⟨abA _,λ_ _ h=>⟨h,rfl⟩,λ_ h=>.inl h,rfl,rfl,rfl,rfl⟩
theorem Bs.trans{w0 c f:World}{S0 e d:SB}(h:Bs w0 S0 c e)(k:Bs c e f d):Bs w0 S0 f d :=
 ⟨aca h.size k.size,λi b g=>by
  obtain⟨a,j⟩:=h.fr i b g;obtain⟨l,h4⟩:=k.fr i (acH b h.size) a;exact⟨l,h4.trans j⟩,λi b=>by
  rcases k.sub i b with a|a;exact h.sub i a;exact .inr (aca h.size a),k.os.trans h.os,k.tape.trans h.tape,k.output.trans h.output,k.low.trans h.low⟩
theorem Bs.rel{w0 f w:World}{S0 j:SB}(h:Bs w0 S0 f j){E:Env}{L:List Blk}(a:Rel f j E L w):Rel w0 S0 E L w :=
 ⟨a.mem,a.blk,a.fresh,λi k c b d e=>⟨(a.own i k c b d e).1,by
  rcases(a.own i k c b d e).2 with h4|h4;exact h.sub _ h4;exact .inr (aca h.size h4)⟩,a.inj,a.tkfresh,λi n sz t k b d e=>⟨(a.tkown i n sz t k b d e).1,by
  rcases(a.tkown i n sz t k b d e).2 with h4|h4;exact h.sub _ h4;exact .inr (aca h.size h4)⟩,a.tkloc,a.tkinj,λk g l=>by
  obtain⟨b,d⟩:=h.fr k g l;exact(a.frame k (acH g h.size) b).trans d,aca h.size a.size,a.os.trans h.os,a.tape.trans h.tape,a.output.trans h.output,a.glob,a.gsz⟩
theorem Rel.ownSub{w0 w:World}{S0:SB}{E:Env}{L:List Blk}(f:Rel w0 S0 E L w)(k:Nat)(g:JT E L k):S0 k\/w0.heap.size<=k:=by rcases g with⟨i,b,c,a,d,e,rfl⟩|⟨i,n,sz,t,c,a,d,e,rfl⟩;exact(f.own i b c a d e).2;exact(f.tkown i n sz t c a d e).2
theorem Rel.bs{w0 w:World}{S0:SB}{E:Env}{L:List Blk}(a:Rel w0 S0 E L w):Bs w0 S0 w ⟨JT E L,S0.B⟩:=
 ⟨a.size,λk e b=>⟨λd=>by rcases a.ownSub k d with c|c;exact b c;omega,a.frame k e b⟩,a.ownSub,a.os,a.tape,a.output,rfl⟩
theorem RD.bs{w0 a:World}{S0 e:SB}{ds:List Deferred}(h:RD w0 S0 ds)(b:Bs w0 S0 a e):RD a e ds:=⟨by rw[b.low];exact aca h.1 b.size,h.2.1,λd hd=>by obtain⟨D,j,f,c,k,h4⟩:=h.2.2 d hd;obtain⟨i,g⟩:=b.fr D c k;exact⟨D,j,by rw[b.low];exact f,acH c b.size,i,g.trans h4⟩⟩
def AW(P:Program)(N:Nat)(own:Nat->Nat->Nat)(lc:aS)(Q:Exit->Tm->List Blk->Prop)(T:Tm)(L:List Blk):Prop :=
 ∀c,aF P N own c=some lc.raw->∀(r:Option Nat),(lc.hasRF=true->r=none)->∀(w0:World) (S0:SB) (E:Env) (a:Act) (w:World),St w0 S0 N E T L a w ->
  c.wpIn (fm r) 0 P (λe a' w'=>∃w1 S1 E' T' L',Bs w0 S0 w1 S1/\E.le E'/\Q e T' L'/\St w1 S1 N E' T' L' a' w') a w
variable {own:Nat->Nat->Nat}{Q:Exit->Tm->List Blk->Prop}{T:Tm}{L:List Blk}
theorem AW.mono{lc:aS}{f:Exit->Tm->List Blk->Prop}(h:AW P N own lc Q T L)(i:∀e T L,Q e T L->f e T L):AW P N own lc f T L:=λc j r hr w0 S0 E a w d =>
 wpIn_mono (h c j r hr w0 S0 E a w d) λe o w' ⟨g,m,E',T',L',b,k,l,n⟩=>⟨g,m,E',T',L',b,k,i _ _ _ l,n⟩
theorem AW.weakT{lc:aS}{T':Tm}(h:AW P N own lc Q T' L)(d:∀t v,aq T' t=some v->aq T t=some v):AW P N own lc Q T L:=λc f r hr w0 S0 E a w b =>
 h c f r hr w0 S0 E a w (b.weak d rfl λ_ _ e=>.inr e)
theorem rT{c:Code}{x:aS}(d:aF P N own c=some x):match x with
  |.skip=>c=.skip
  |.exit id=>c=.exit id
  |.ret=>c=.ret
  |.label=>∃l,c=.label l
  |.seq x y=>∃g i,c=.seq g i/\aF P N own g=some x/\aF P N own i=some y
  |.cond o x y=>∃m g i,c=.cond m g i/\aY m=some o/\aF P N own g=some x/\aF P N own i=some y
  |.block id x=>∃g,c=.block id g/\aF P N own g=some x
  |.loop x=>∃g,c=.loop g/\aF P N own g=some x
  |.scope x=>∃g,c=.scope g/\aF P N own g=some x
  |.region ops=>∃id os,c=.region id os false/\bm P N (own id) os (List.range os.size)=some ops
  |.dregion qk ts=>∃id os e n,c=.region id os true/\bm P N (own id) os (List.range os.size)=some e/\Er os e n=true/\n<=e.length/\P.follows .mixedOrders=true/\qk.map (·.1)=e.take n/\ts=e.drop n/\Kh (nq os.toList []) qk=true
  |_=>True:=by
 cases c with
 |skip=>cases d;rfl
 |ret=>cases d;rfl
 |exit id=>cases d;rfl
 |label l=>cases d;exact⟨_,rfl⟩
 |goto l=>cases d
 |refuse s=>cases d
 |block id c=>simp only[aF,abZ]at d;obtain⟨_,h,rfl⟩:=d;exact⟨_,rfl,h⟩
 |loop c=>simp only[aF,abZ]at d;obtain⟨_,h,rfl⟩:=d;exact⟨_,rfl,h⟩
 |scope c=>simp only[aF,abZ]at d;obtain⟨_,h,rfl⟩:=d;exact⟨_,rfl,h⟩
 | seq a b => simp only [aF] at d; split at d <;> try (cases d; done)
              rename_i h j;cases d;exact⟨_,_,rfl,h,j⟩
 | cond k a b => simp only [aF] at d; split at d <;> try (cases d; done)
                 rename_i h j p;cases d;exact⟨_,_,_,rfl,h,j,p⟩
 | rangeFunc f ps a b =>
   simp only[aF]at d
   repeat' split at d
   all_goals cases d
   trivial
 | region id ops draw =>
   cases draw
   .simp only[aF,abZ]at d;obtain⟨_,h,rfl⟩:=d;exact⟨_,_,rfl,h⟩
   .simp only[aF,adM]at d;obtain⟨e,h,d⟩:=d;split at d
    .rename_i hb;simp only[abH,decide_eq_true_eq]at hb;cases d;exact⟨_,_,e,_,rfl,h,hb.1.1.1,hb.1.1.2,hb.1.2,QW _ _ _,rfl,hb.2⟩
    .cases d
theorem WA{c:Code}(a:aF P N own c=some .skip):c=.skip:=rT a
theorem WC{c:Code}{id:Nat}(a:aF P N own c=some (.exit id)):c=.exit id:=rT a
theorem Yy{c:Code}(a:aF P N own c=some .ret):c=.ret:=rT a
theorem TJ{c:Code}{x y:aS}(d:aF P N own c=some (.seq x y)):∃a b,c=.seq a b/\aF P N own a=some x/\aF P N own b=some y:=rT d
theorem QZ{c:Code}{o:Opd}{x y:aS}(e:aF P N own c=some (.cond o x y)):∃a b d,c=.cond a b d/\aY a=some o/\aF P N own b=some x/\aF P N own d=some y:=rT e
theorem UP{c:Code}{id:Nat}{x:aS}(b:aF P N own c=some (.block id x)):∃a,c=.block id a/\aF P N own a=some x:=rT b
theorem WB{c:Code}{x:aS}(b:aF P N own c=some (.loop x)):∃a,c=.loop a/\aF P N own a=some x:=rT b
theorem Hg{c:Code}{ops:List aj}(a:aF P N own c=some (.region ops)):∃id os,c=.region id os false/\bm P N (own id) os (List.range os.size)=some ops:=rT a
theorem LG{c:Code}{qk:List (aj×Kd)}{ts:List aj}(b:aF P N own c=some (.dregion qk ts)):∃id os a n,c=.region id os true/\bm P N (own id) os (List.range os.size)=some a/\Er os a n=true/\n<=a.length/\P.follows .mixedOrders=true/\qk.map (·.1)=a.take n/\ts=a.drop n/\Kh (nq os.toList []) qk=true:=rT b
theorem jL{b:Frame}{a:Act}{k:List Item}{cs:List Frame}{w:World}{c:Code}:step P (lone (b.atR a (.code (.scope c)::k)) cs w)=.next (lone (b.atR a (.code c :: .inScope c::k)) cs w):=
 step_lone_go (by simp[stepG,stepG.exec,Frame.atR])
theorem Ot{b:Frame}{a:Act}{k:List Item}{cs:List Frame}{w:World}{c:Code}:step P (lone (b.atR a (.inScope c::k)) cs w)=.next (lone (b.atR a k) cs w):=
 step_lone_go (by simp[stepG,stepG.exec,Frame.atR])
theorem RM{F:Fence}{n:Nat}{a:Act}{w:World}{Q:Exit->Act->World->Prop}{c:Code}(h:c.wpIn F n P (Exit.noGoto Q) a w):(Code.scope c).wpIn F n P Q a w:=by
 intro b k cs q m hr;have g:(lone (b.atR a (.code (.scope c)::k)) cs w).fenced P F:=fenced_calm m hr rfl;obtain⟨e,i,j,f,d⟩:=h b (.inScope c::k) cs q m hr;cases e with
 |normal=>exact⟨.normal,i,j,f,.head g jL (StepsIn.trans d (.one (fenced_calm m hr rfl) Ot))⟩
 | exit id =>
   have r:exitTo id (.inScope c::k)=exitTo id k:=(by simp[exitTo]);exact⟨.exit id,i,j,f,λk' p=>.head g jL (d.1 k' (by rw[r];exact p)),
    λo p=>let ⟨k₁,h1,h2⟩:=d.2 o (by rw[r];exact p);⟨k₁,h1,.head g jL h2⟩⟩
 |goto l=>exact f.elim
 |ret=>exact⟨_,i,j,f,.of_steps (.one g jL) d⟩
 |panic ch=>exact⟨_,i,j,f,.of_steps (.one g jL) d⟩
 |outgrown=>exact⟨_,i,j,f,.of_steps (.one g jL) d⟩
theorem iN(h:Q .normal T L):AW P N own .skip Q T L:=λc d r hr w0 S0 E a w b=>by obtain rfl:=WA d;exact wpIn_skip ⟨w0,S0,E,T,L,.refl _ _,.refl E,h,b⟩
theorem jA{id:Nat}(h:Q (.exit id) T L):AW P N own (.exit id) Q T L:=λc d r hr w0 S0 E a w b=>by obtain rfl:=WC d;exact wpIn_exit ⟨w0,S0,E,T,L,.refl _ _,.refl E,h,b⟩
theorem nI(h:Q .ret T L):AW P N own .ret Q T L:=λc d r hr w0 S0 E a w b=>by obtain rfl:=Yy d;exact wpIn_ret ⟨w0,S0,E,T,L,.refl _ _,.refl E,h,b⟩
def RB(K:Tm->List Blk->Prop)(Q:Exit->Tm->List Blk->Prop):Exit->Tm->List Blk->Prop
 |.normal,T,L=>K T L
 |e,T,L=>Q e T L
theorem kY{x y:aS}(h:AW P N own x (RB (AW P N own y Q) Q) T L):AW P N own (.seq x y) Q T L:=λc hc r hr w0 S0 E a w hst=>by
 obtain⟨c1,c2,rfl,h1,h2⟩:=TJ hc;refine wpIn_seq (wpIn_mono (h c1 h1 r (λe=>hr (by simp[aS.hasRF,e])) w0 S0 E a w hst) λe a' w' ⟨w1,S1,E',T',L',b,g1,g2,g3⟩=>?_);cases e
 case normal=>exact wpIn_mono (g2 c2 h2 r (λe=>hr (by simp[aS.hasRF,e])) w1 S1 E' a' w' g3) λe a'' w'' ⟨w2,S2,E'',T'',L'',b2,k1,k2,k3⟩=>⟨w2,S2,E'',T'',L'',b.trans b2,g1.trans k1,k2,k3⟩
 all_goals exact⟨w1,S1,E',T',L',b,g1,g2,g3⟩
theorem eQ{x:Opd}{y z:aS}{b:Bool}(l:evX T x=some (.bool b))(k:b=true->AW P N own y Q T L)(m:b=false->AW P N own z Q T L):AW P N own (.cond x y z) Q T L:=λc f r hr w0 S0 E a w d=>by obtain⟨o,j,g,rfl,h,i,n⟩:=QZ f;have:=ah h l d.2.1;simp only[VR]at this;exact wpIn_cond_split this (λe=>k e j i r (λe=>hr (by simp[aS.hasRF,e])) w0 S0 E a w d) (λe=>m e g n r (λe=>hr (by simp[aS.hasRF,e])) w0 S0 E a w d)
def SY(id:Nat)(Q:Exit->Tm->List Blk->Prop):Exit->Tm->List Blk->Prop
 |.exit id',T,L=>if id'=id then Q .normal T L else Q (.exit id') T L
 |e,T,L=>Q e T L
theorem cE{x:Opd}{y z:aS}(n:evX T x=some .anyb)(m:AW P N own y Q T L)(o:AW P N own z Q T L):AW P N own (.cond x y z) Q T L:=λc h r hr w0 S0 E a w d=>by obtain⟨p,l,i,rfl,g,j,k⟩:=QZ h;have f:=ah g n d.2.1;simp only[VR]at f;obtain⟨b,f⟩:=f;exact wpIn_cond_split f (λ_=>m l j r (λe=>hr (by simp[aS.hasRF,e])) w0 S0 E a w d) (λ_=>o i k r (λe=>hr (by simp[aS.hasRF,e])) w0 S0 E a w d)
theorem fS{id:Nat}{x:aS}(h:AW P N own x (SY id Q) T L):AW P N own (.block id x) Q T L:=λc hc r hr w0 S0 E a w hst=>by
 obtain⟨c1,rfl,h1⟩:=UP hc;refine wpIn_block (wpIn_mono (h c1 h1 r (λe=>hr (by simp[aS.hasRF,e])) w0 S0 E a w hst) λe a' w' ⟨w1,S1,E',T',L',b,g1,g2,g3⟩=>?_);cases e
 case exit i =>
  simp only[SY]at g2;simp only[Exit.inBlock];split at g2
  .rename_i e;rw[if_pos e];exact⟨w1,S1,E',T',L',b,g1,g2,g3⟩
  .rename_i e;rw[if_neg e];exact⟨w1,S1,E',T',L',b,g1,g2,g3⟩
 all_goals exact⟨w1,S1,E',T',L',b,g1,g2,g3⟩
def Qb(Q:Exit->Tm->List Blk->Prop):Exit->Tm->List Blk->Prop
 |.goto _,_,_=>False
 |e,T,L=>Q e T L
theorem Xx:Qb Q .normal T L=Q .normal T L:=rfl
theorem Xy{i:Nat}:Qb Q (.exit i) T L=Q (.exit i) T L:=rfl
theorem Xw:Qb Q .ret T L=Q .ret T L:=rfl
attribute [push_cast] Xx Xy Xw
theorem fN{x:aS}(h:AW P N own x (Qb Q) T L):AW P N own (.scope x) Q T L:=λc hc r hr w0 S0 E a w hst=>by
 obtain⟨c1,rfl,h1⟩:=rT hc;refine RM (wpIn_mono (h c1 h1 r (λe=>hr (by simp[aS.hasRF,e])) w0 S0 E a w hst) λe a' w' ⟨w1,S1,E',T',L',b,g1,g2,g3⟩=>?_);cases e
 case goto l=>exact g2.elim
 all_goals exact⟨w1,S1,E',T',L',b,g1,g2,g3⟩
theorem fO(h:Q .normal T L):AW P N own .label Q T L:=λc d r hr w0 S0 E a w b=>by obtain⟨l,rfl⟩:=rT d;exact wpIn_label ⟨w0,S0,E,T,L,.refl _ _,.refl E,h,b⟩
theorem PT(p:Nat->Prop):∀n,p n->∃m,p m/\∀k,p k->m<=k:=by
 intro n;induction n using Nat.strongRecOn with
 | _ n ih =>
   intro b;by_cases h:∃k,k<n/\p k
   .obtain⟨k,a,h2⟩:=h;exact ih k a h2
   .refine⟨n,b,λk c=>?_⟩;rcases ab5 k n with a|a
    .exact absurd ⟨k,a,c⟩ h
    .exact a
theorem St.draw{E:Env}{a:Act}{w:World}{T:Tm}{L:List Blk}(h:St w0 S0 N E T L a w)(n:Nat):St w0 S0 N E T L a {w with drawn:=n}:=⟨h.1.draw n,h.2⟩
theorem Oq{qk:List (aj×Kd)}{ts:List aj}(h:AG P (ma P (Q .normal) ts) qk [L] [] T):AW P N own (.dregion qk ts) Q T L:=λc k r hr w0 S0 E a w b=>by
 obtain⟨id,os,t,n,rfl,m,o,u,h4,f,rfl,q⟩:=LG k;refine wpIn_region_any h4 ?_;have s:qk.length=n:=by have:=congrArg List.length f;simp at this;omega
 exact Rv (w0:=w0) (S0:=S0) (L:=L) (T:=T) (Q:=λe g w'=>∃d i E' T' L',Bs w0 S0 d i/\E.le E'/\Q e T' L'/\St d i N E' T' L' g w') (K:=Q .normal) (E0:=E) m o (by rw[f,ac4]) s q h (λE' T' L' g w' j l p=>⟨w0,S0,E',T',L',.refl _ _,j,l,p⟩) a _ E (.refl E) (b.draw _)
def ZJ(mask:List Bool)(T:Tm):Bool:=(mask.zip T).all λp=>p.1 ||(aq (sel mask T) p.2.1).isNone
theorem MH:∀{a:List Bool}{T:Tm}{t:Nat}{v:AV},(∀p∈a.zip T,p.1=true\/p.2.1≠t)->aq (sel a T) t=some v->aq T t=some v
 |[],T,t,v,_,h=>by rwa[Tn]at h
 |true::m,[],t,v,_,h=>by simp[sel,aq]at h
 |false::m,[],t,v,_,h=>by simp[sel,aq]at h
 | true::m,x::T,t,v,hm,h=>by
   obtain⟨k,u⟩:=x;rw[Zi]at h;simp only[aq]at h⊢;split
   .rename_i e;rw[if_pos e]at h;exact h
   .rename_i e;rw[if_neg e]at h;exact MH (λp b=>hm p (by simp only[List.zip_cons_cons,abY];exact .inr b)) h
 | false::m,x::T,t,v,hm,h=>by
   obtain⟨k,u⟩:=x;rw[Zj]at h;have c:k≠t:=by
    rcases hm (false,(k,u)) aev with h|h
    .cases h
    .exact h
   simp only[aq];rw[if_neg c];exact MH (λp b=>hm p (by simp only[List.zip_cons_cons,abY];exact .inr b)) h
theorem EL{a:List Bool}{T:Tm}{t:Nat}{v:AV}(c:ZJ a T=true)(h:aq (sel a T) t=some v):aq T t=some v :=
 MH (λp d=>by
  have:=abL.1 c p d;rcases Bool.or_eq_true_iff.1 this with b|b;exact .inl b;refine .inr λe=>?_
  rw[e,h]at b;cases b) h
def Oj(mask:List Bool)(K:Tm->List Blk->Prop)(T:Tm)(L:List Blk):Prop:=ZJ mask T=true/\K (sel mask T) L
theorem jv{a:List Bool}{K:Tm->List Blk->Prop}{T:Tm}{L:List Blk}(c:ZJ a T=true)(b:K (sel a T) L):Oj a K T L:=⟨c,b⟩
def frB(ds:List Nat)(T:Tm):Bool:=ds.all λd=>(aq T d).isNone
theorem jz{b:List SOp}{f:List Bool}(i:(okS b&&frB (gds b) T)=true)(h:SL P b (Oj f (Q .normal)) T L):AW P N own (.sreg b f) Q T L:=λc k r hr w0 S0 E a w g=>by obtain⟨id,os,rfl,l⟩:=Hg k;rw[abH]at i;refine wpIn_region (CD b i.1 l g (λd hd=>?_) h λE' T' L' o w' m j h4=>⟨w0,S0,E',sel f T',L',.refl _ _,m,j.2,h4.weak (λt v n=>EL j.1 n) rfl λ_ _ e=>.inr e⟩);have:=abL.1 i.2 d hd;simpa using this
def aao(mask:List Bool)(K:Tm->List Blk->Prop)(L:List Blk)(T:Tm):Prop:=Oj mask K T L
theorem Y4{a:List Bool}{K:Tm->List Blk->Prop}{T:Tm}{L:List Blk}:aao a K L T=Oj a K T L:=rfl
theorem fM{b:List SOp}{kds:List Kd}{f:List Bool}(D:(okG none [] [] b&&frB (gds b) T&&decide (kds.length<=(SOp.flatL b).length))=true)(h:GL P L b (aao f (Q .normal) L) T):AW P N own (.sdreg b kds f) Q T L:=λc M r hr w0 S0 E a w s=>by
 obtain⟨id,os,g,n,rfl,G,A,h3,h4,C,V,_⟩:=LG M;simp only[abH,decide_eq_true_eq]at D;obtain⟨⟨J,S⟩,Z⟩:=D;have q:g=SOp.flatL b:=by
  have u:((SOp.flatL b).zip kds).map (·.1)=(SOp.flatL b).take kds.length:=by
   have key:∀(l:List aj) (m:List Kd),(l.zip m).map (·.1)=l.take m.length:=by
    intro l;induction l with
    |nil=>intro m;simp
    |cons o l ih=>intro m;cases m<;>simp[ih]
   exact key _ _
  rw[u]at C;rw[<- ac4 n g,<- C,<- V,ac4]
 have z:g.length=os.size:=by simpa using(xP G).1
 refine wpIn_region_any h4 ?_;have j:Er os g g.length=true:=by simp only[Er,abH]at A⊢;refine⟨A.1,?_⟩;simp only[ST,abL,List.mem_range,acn,decide_eq_true_eq];exact λi hi=>.inl aeu
 have y:=Vf (P:=P) (L:=L) J (T:=T) (λd hd=>by have:=abL.1 S d hd;simpa using this) h
 refine Rv (w0:=w0) (S0:=S0) (L:=L) (T:=T) (Q:=λe H w'=>∃F I E' T' L',Bs w0 S0 F I/\E.le E'/\Q e T' L'/\St F I N E' T' L' H w') (E0:=E) (qk:=g.map λo=>(o,.read 0 0)) (ts:=[]) G j (by simp[abW,Function.comp_def]) aev ?_ (K:=λT1 L'=>L'=L/\∃T',aao f (Q .normal) L T'/\∀t v,aq T' t=some v->aq T1 t=some v)
  ?_ (λE' T' L' H w' u ⟨X,R,B,W⟩ Y=>?_) a _ E (.refl E) (s.draw _)
 have x:∀(l:List aj) (k:Nat),dl (l.map λo=>(o,Kd.read 0 0)) k=[]:=by
  intro l;induction l with
  |nil=>intro k;rfl
  |cons o l ih=>intro k;simp only[abO,dl];exact ih _
 simp only[Kh,x,ack,List.range_zero,List.all_nil,acU,abL];intro p O;obtain⟨⟨o,kd⟩,i⟩:=p;have:kd=Kd.read 0 0:=by have:=List.fst_mem_of_mem_zipIdx O;simp only[abB]at this;obtain⟨o',_,e⟩:=this;cases e;rfl
 subst this;rfl;rw[q];exact y;subst X;exact⟨w0,S0,E',sel f R,_,.refl _ _,u,B.2,Y.weak (λt v U=>W t v (EL B.1 U)) rfl λ_ _ e=>.inr e⟩
theorem fP{qk:List (aj×Kd)}{ts:List aj}{d:List Bool}(h:AG P (ma P (Oj d (Q .normal)) ts) qk [L] [] T):AW P N own (.dregM qk ts d) Q T L:=λc i r hr w0 S0 E a w f=>by
 have:=Oq (N:=N) (own:=own) (Q:=λe T' L'=>e=.normal/\Oj d (Q .normal) T' L') (L:=L) (T:=T) (qk:=qk) (ts:=ts) (P:=P) ?_ c i r hr w0 S0 E a w f;refine wpIn_mono this λe m w' ⟨g,l,E',T',L',b,g1,⟨j,g3⟩,g4⟩=>?_
 subst j;exact⟨g,l,E',sel d T',L',b,g1,g3.2,g4.weak (λt v k=>EL g3.1 k) rfl λ_ _ e=>.inr e⟩;have e:(λT' L'=>Exit.normal=Exit.normal/\Oj d (Q .normal) T' L')=Oj d (Q .normal):=by funext T' L';simp
 rw[e];exact h
theorem dP{ops:List aj}(h:ma P (Q .normal) ops T L):AW P N own (.region ops) Q T L:=λc d r hr w0 S0 E a w b=>by obtain⟨id,os,rfl,e⟩:=Hg d;exact wpIn_region (HC _ _ e b h λE' T' L' i w' f g h4=>⟨w0,S0,E',T',L',.refl _ _,f,g,h4⟩)
end
inductive RE where
 |tmp (t:Nat)
 |cell (agg:Bool) (sz t:Nat)
 deriving Inhabited
structure aI where
 ntmps:Nat
 code:aS
 res:List RE
 deriving Inhabited
def aI.raw(f:aI):aI:=⟨f.ntmps,f.code.raw,f.res⟩
def Hc(P:Program):List ResultVar->Option (List RE)
 |[]=>some []
 |.tmp t::l=>(Hc P l).map (.tmp t::·)
 | .cell a t::l=>match rS P t,bG P t,Hc P l with
   |some g,some s,some m=>some (.cell g s a::m)
   |_,_,_=>none
def aM(P:Program)(own:Nat->Nat->Nat)(f:FuncId):Option aI :=
 match P.funcs[f]? with
 |none=>none
 | some fn=>if (fn.name == "runtime.NumGoroutine")=true then none else match fn.body with
   |none=>none
   | some c=>match aF P fn.ntmps own c,Hc P fn.results.toList with
     |some lc,some rs=>some ⟨fn.ntmps,lc,rs⟩
     |_,_=>none
def LP(T:Tm)(L:List Blk):List RE->Option (Prop×List AV)
 |[]=>some (True,[])
 | .tmp t::l=>match aq T t,LP T L l with
   |some v,some (c,m)=>some (c,v::m)
   |_,_=>none
 | .cell g sz t::l=>match (aq T t).bind (row L),LP T L l with
   |some (r,off),some (c,m)=>if g then some (off+sz<=r.length/\c,.agg ((r.drop off).take sz)::m)else some (off<r.length/\c,r.getD off .undef::m)
   |_,_=>none
def Py:List AV->AV
 |[v]=>v
 |l=>.tup l
def am(i:Nat):List AV->Tm
 |[]=>[]
 |a::l=>(i,a)::am (i+1) l
section
variable {P:Program}{w0:World}{S0:SB}{N:Nat}{E:Env}{L:List Blk}{w:World}{T:Tm}{a:Act}
theorem HQ:∀{rs:List ResultVar}{ls:List RE}{c:Prop}{m:List AV},Hc P rs=some ls->LP T L ls=some (c,m)->c->Rel w0 S0 E L w->TR E T a ->
  ∃vs,VRL E m vs/\(rs.mapM (m:=Sem) fun
   |.tmp t=>pure (a.tmps.getD t undef)
   |.cell x t=>do loadVar t (<- asAddr (a.tmps.getD x undef))).run P w=.ok vs w
 |[],ls,c,m,hl,he,hc,hR,hT=>by simp[Hc]at hl;subst hl;simp[LP]at he;obtain⟨_,rfl⟩:=he;exact⟨[],by simp[VRL],aev⟩
 | .tmp t::rs,ls,c,m,hl,he,hc,hR,hT=>by
   simp only[Hc,abZ]at hl;obtain⟨q,h,rfl⟩:=hl;simp only[LP]at he;split at he<;>try cases he
   rename_i v c' D f i;obtain⟨vs,h4,n⟩:=HQ h i hc hR hT;exact⟨_::vs,⟨_,_,rfl,hT _ _ f,h4⟩,by simp only[adW,abF,ab8,abG,n]⟩
 | .cell x t::rs,ls,c,m,hl,he,hc,hR,hT=>by
   simp only[Hc]at hl;split at hl<;>try cases hl
   rename_i g s q B I h;simp only[LP]at he;split at he<;>try cases he
   rename_i r off c' D f i;rcases h6:aq T x with _|u
   .simp_all
   .simp only[h6,ac2]at f;have G:=hT _ _ h6;obtain⟨b,o,F,d⟩:=J2 hR f G;have k:(asAddr (a.tmps.getD x undef)).run P w=.ok ⟨b,o+off,none⟩ w:=(by rw[F];rfl);cases g
    .obtain⟨rfl,rfl⟩:=he;obtain⟨vs,h4,n⟩:=HQ h i hc.2 hR hT;obtain⟨y,z,C⟩:=d off r[off] (ab0 hc.1);refine⟨y::vs,⟨_,_,rfl,by rw[abR,ab0 hc.1];exact C,h4⟩,?_⟩;have A:(loadVar t ⟨b,o+off,none⟩).run P w=.ok y w:=(by simp[loadVar,xu B,z]);simp_all
    .obtain⟨rfl,rfl⟩:=he;obtain⟨vs,h4,n⟩:=HQ h i hc.2 hR hT;have e:((r.drop off).take s).length=s:=(by simp;omega);obtain⟨cs,z,C⟩:=LF (P:=P) (w:=w) (b:=b) (o:=o+off) (l:=(r.drop off).take s) B (by rw[e];exact I) (λj a p=>by have H:j<s:=(by have:=(aby.1 p).1;omega);rw[acf H,aci]at p;have:=d _ _ p;rwa[<- acD]at this)
     refine⟨.agg ⟨cs⟩::vs,⟨_,_,rfl,⟨cs,rfl,z⟩,h4⟩,?_⟩;simp_all
theorem V3{m:List AV}{vs:List Value}(h:VRL E m vs):VR E (Py m) (if h:vs.length=1 then vs[0]else .tuple ⟨vs⟩):=by
 have a:=h.length;by_cases b:vs.length=1
 match m,vs,h,a,b with
 | [x],[y],h,_,_ =>
   obtain⟨_,_,⟨rfl,rfl⟩,c,_⟩:=h;exact c
 rw[dif_neg b];have:Py m=.tup m:=by
  match m,a with
  |[],_=>rfl
  |[x],a=>simp at a;exact absurd a b
  |_::_::_,_=>rfl
 rw[this];exact⟨vs,rfl,h⟩
theorem Ni:∀{args:List AV}{i t:Nat}{v:AV},aq (am i args) t=some v->i<=t/\args[t-i]?=some v
 |[],i,t,v,h=>by simp[am,aq]at h
 | x::args,i,t,v,h=>by
   simp only[am,aq]at h;split at h
   .simp[*]
   .rename_i e;have:=Ni h
    grind
def Fin(L0:List Blk)(r:AV)(L:List Blk)(Q:AV->List Blk->Prop):Prop :=
 ∀(w0:World) (S0:SB) (E0 E:Env) (w:World) (v:Value),E0.le E->(∀i,L0.length<=i->E0.loc i=none/\E0.tok i=none)->(∀k∈L0,k.refs (λi=>decide (i<L0.length))=true) ->
  Rel w0 S0 E L w->VR E r v->∃E' av L',E0.le E'/\Q av L'/\VR E' av v/\Rel w0 S0 E' L' w
mutual
theorem VR.refs{n:Nat}(g:∀i,n<=i->E.loc i=none)(j:∀i,n<=i->E.tok i=none):∀(a:AV) (v:Value),VR E a v->a.refs (λi=>decide (i<n))=true
 |.undef,_,_=>rfl
 |.bool _,_,_=>rfl
 |.anyb,_,_=>rfl
 |.int _ _,_,_=>rfl
 |.str _,_,_=>rfl
 |.nilptr,_,_=>rfl
 |.gptr _ _,_,_=>rfl
 | .ptr i off,v,r=>by
   simp only[VR]at r;obtain⟨c,h,_⟩:=r;simp only[AV.refs,decide_eq_true_eq];rcases ab5 i n with e|e
   .exact e
   .rw[g i e]at h;cases h
 |.iptr l off,v,r=>by simp only[VR]at r;obtain⟨b,o,_,h⟩:=r;exact VRC.refs g j l b o h
 |.nilsl,_,_=>rfl
 | .sl l m cap,v,r=>by
   simp only[VR]at r;obtain⟨p,c,_,_,_,h⟩:=r;rcases h with⟨_,_,_,rfl⟩|⟨b,o,_,h⟩
   .rfl
   .exact VRC.refs g j l b o h
 | .gsl l m i sz,v,r=>by
   simp only[VR]at r;obtain⟨p,c,_,_,_,h,t,k,_⟩:=r;simp only[AV.refs,decide_eq_true_eq,abH];refine⟨?_,?_⟩
   .rcases ab5 i n with e|e
    .exact e
    .rw[j i e]at k;cases k
   .rcases h with⟨_,_,_,rfl⟩|⟨b,o,_,h⟩
    .rfl
    .exact VRC.refs g j l b o h
 | .lsl i off len cap sz,v,r=>by
   simp only[VR]at r;obtain⟨c,q,d,h,_⟩:=r;simp only[AV.refs,decide_eq_true_eq];rcases ab5 i n with e|e
   .exact e
   .rw[g i e]at h;cases h
 |.nilmap,_,_=>rfl
 | .lmap i,v,r=>by
   simp only[VR]at r;obtain⟨c,h,_⟩:=r;simp only[AV.refs,decide_eq_true_eq];rcases ab5 i n with e|e
   .exact e
   .rw[g i e]at h;cases h
 | .yld i,v,r=>by
   simp only[VR]at r;obtain⟨c,h,_⟩:=r;simp only[AV.refs,decide_eq_true_eq];rcases ab5 i n with e|e
   .exact e
   .rw[g i e]at h;cases h
 |.func f caps,v,r=>by simp only[VR]at r;obtain⟨vs,_,h⟩:=r;exact VRL.refs g j caps vs h
 |.nilfunc,_,_=>rfl
 |.nilif,_,_=>rfl
 |.iface t x,v,r=>by simp only[VR]at r;obtain⟨y,_,h⟩:=r;exact VR.refs g j x y h
 |.agg l,v,r=>by simp only[VR]at r;obtain⟨vs,_,h⟩:=r;exact VRL.refs g j l vs h
 |.tup l,v,r=>by simp only[VR]at r;obtain⟨vs,_,h⟩:=r;exact VRL.refs g j l vs h
theorem VRL.refs{n:Nat}(b:∀i,n<=i->E.loc i=none)(c:∀i,n<=i->E.tok i=none):∀(l:List AV) (vs:List Value),VRL E l vs->AV.refsL (λi=>decide (i<n)) l=true
 |[],_,_=>rfl
 |a::l,vs,r=>by simp only[VRL]at r;obtain⟨x,xs,_,d,e⟩:=r;simp only[AV.refsL,abH];exact⟨VR.refs b c a x d,VRL.refs b c l xs e⟩
theorem VRC.refs{n:Nat}(c:∀i,n<=i->E.loc i=none)(d:∀i,n<=i->E.tok i=none):∀(l:List AV) (b o:Nat),VRC E l b o->AV.refsL (λi=>decide (i<n)) l=true
 |[],_,_,_=>rfl
 |a::l,b,o,r=>by simp only[VRC]at r;obtain⟨⟨x,_,e⟩,f⟩:=r;simp only[AV.refsL,abH];exact⟨VR.refs c d a x e,VRC.refs c d l b (o+1) f⟩
end
theorem ay.refs{n:Nat}(a:∀i,n<=i->E.loc i=none)(c:∀i,n<=i->E.tok i=none):∀{l:List (AV×AV×Nat)}{es:List MapEntry},ay E l es->(l.all λe=>e.1.refs (λi=>decide (i<n))&&e.2.1.refs (λi=>decide (i<n)))=true
 |[],_,_=>rfl
 |(k,x,b)::l,es,r=>by simp only[ay]at r;obtain⟨e,t,_,d,f,_,g⟩:=r;simp only[ade,abH];exact⟨⟨VR.refs a c _ _ d,VR.refs a c _ _ f⟩,ay.refs a c g⟩
theorem Rel.refs(h:Rel w0 S0 E L w):∀k∈L,k.refs (λi=>decide (i<L.length))=true:=λk n=>by
 obtain⟨i,o⟩:=ac9.1 n;have e:=h.blk i k o;cases k<;>simp only[bf]at e;rfl;obtain⟨c,cs,ty,fr,_,_,_,_,b,_⟩:=e;refine AV.refsL_iff.2 λa g=>?_
 obtain⟨j,f⟩:=ac9.1 g;obtain⟨v,_,l⟩:=b j a f;exact VR.refs h.fresh h.tkfresh _ _ l;obtain⟨c,rs,_,_,p⟩:=e;exact ay.refs h.fresh h.tkfresh p;rename_i m _ _ _;obtain⟨c,q,_,_,_,h4⟩:=e;cases m with
 |none=>rfl
 | some j =>
   obtain⟨d,g1,_⟩:=h4;simp only[Blk.refs,decide_eq_true_eq];rcases ab5 j L.length with b|b
   .omega
   .rw[h.fresh j b]at g1;cases g1
 rfl;obtain⟨c,cs,ty,fr,_,_,_,_,b,_⟩:=e;refine AV.refsL_iff.2 λa g=>?_
 obtain⟨j,f⟩:=ac9.1 g;obtain⟨v,_,l⟩:=b j a f;exact VR.refs h.fresh h.tkfresh _ _ l;rfl;obtain⟨c,D,tm,_,_,_,_,b⟩:=e;simp only[Blk.refs,abL];rintro⟨t,u⟩ _;rcases hl:aq _ t with _|v;rfl;simpa using VR.refs h.fresh h.tkfresh _ _ (b t v hl)
def Y8(res:List RE)(L0:List Blk)(Q:AV->List Blk->Prop)(e:Exit)(T:Tm)(L':List Blk):Prop :=
 (e=.normal\/e=.ret)/\∃c rs,LP T L' res=some (c,rs)/\c/\Fin L0 (Py rs) L' Q
theorem Rel.shut{w0 w:World}{S0:SB}{E:Env}{L:List Blk}(h:Rel w0 S0 E L w){D:Nat}(A:w0.heap.size<=D)(f:¬JT E L D)(m:w.heap[D]?=some (.deferred (some []))):Rel w0 S0 E L (w.putObj D (.deferred none)):=by
 have same:∀k,k≠D->(w.putObj D (.deferred none)).heap[k]?=w.heap[k]?:=λk a=>adO a
 refine⟨λb o v u=>?_,λi k a=>?_,h.fresh,h.own,h.inj,h.tkfresh,h.tkown,h.tkloc,h.tkinj,λk a r=>?_,by simpa using h.size,h.os,h.tape,h.output,h.glob,λp q g=>?_⟩;have d:=h.mem b o v u;have x:b≠D:=λe=>by subst e;simp[World.cell?,m]at d
 simp only[World.cell?]at d⊢;simp_all;cases hl:k.live;refine bf.still hl rfl (λt c n sz e s j=>?_) (h.blk i k a);exact same _ λl=>f (.inr ⟨i,n,sz,t,c,e▸a,s,j,l⟩)
 refine bf.worldL hl (λc j=>?_) (h.blk i k a);exact same _ λl=>f (.inl ⟨i,k,c,a,hl,j,l⟩)
 rw[same k aeu];exact h.frame k a r;obtain⟨cs,ty,fr,y,z⟩:=h.gsz p q g
 grind
theorem OR{fn:Func}{tmps:Array Value}{R:Ending->World->Prop}{wE:World}{SE:SB}{E:Env}{L:List Blk}(b:∀w,Rel wE SE E L w->∃v,(results fn tmps).run P w=.ok v w/\R (.returned v) w):
  ∀(ds:List Deferred) (w:World),Rel wE SE E L w->ds.Nodup->(∀d∈ds,∃D,d=mkD D/\wE.heap.size<=D/\¬JT E L D/\w.heap[D]?=some (.deferred (some [])))->LeavesInM (fm none) 0 P fn tmps R ds .returning w
 |[],w,h,_,_=>b w h
 |d::ds,w,h,hn,hd=>by obtain⟨D,rfl,f,g,c⟩:=hd _ List.mem_cons_self;obtain⟨m,j⟩:=acu.1 hn;refine⟨λe=>(by cases e),.inl ⟨D,_,rfl,run_takeDeferred c,OR b ds _ (h.shut f g c) j λd a=>?_⟩⟩;obtain⟨i,rfl,k,l,n⟩:=hd d (adq _ a);refine⟨i,rfl,k,l,?_⟩;rw[adO λe=>m (by subst e;exact a)];omega
theorem aa{own:Nat->Nat->Nat}{f:FuncId}{g:aI}(h:aM P own f=some g.raw){args:List AV}{L:List Blk}{Q:AV->List Blk->Prop}(o:args.length<=g.ntmps)(J:AW P g.ntmps own g.code (Y8 g.res L Q) (am 0 args) L):ac P f args L Q:=by
 intro w0 S0 E w vs l M;obtain⟨nt,code,X⟩:=g;simp only[aI.raw]at h o J;unfold aM at h;split at h;cases h;rename_i fn k;split at h;cases h;rename_i a;split at h;cases h;rename_i c H;split at h<;>try cases h
 rename_i lc rs u C;refine .inl ⟨?_,?_⟩;have:(fn.name == "runtime.NumGoroutine")=false:=by simpa using a
 simp only[callFunc,abF,run_program,abG,k,this,H,Option.isNone_some,abT,if_false,ab8];refine(callsIn_wide (n:=0)).1 (callsIn_of_wp_marks (F:=fm none) k H trivial ?_);have ab:=M.length;have z:St w ⟨JT E L,w.heap.size⟩ fn.ntmps E (am 0 args) L {tmps:=(⟨vs⟩:Array Value)++Array.replicate (fn.ntmps-vs.length) undef,defers:=[]} w:=by refine⟨l.enter _,λt x Z=>?_,by simp;omega,RD.nil (abA _)⟩;obtain⟨_,p⟩:=Ni Z;simp only[adz]at p;obtain⟨y,q,O⟩:=M.get p;have s:t<vs.length:=(aby.1 q).1;rw[acR,ad1 (by simpa using s)];simp[*]
 refine wpIn_mono (J c u none (λ_=>rfl) w _ E _ w z) λe G w' ⟨w1,S1,E',T',L',b,g1,⟨W,c',U,g3,g4,R⟩,j⟩=>?_
 have key:LeavesInM (fm none) 0 P fn G.tmps (λe w'=>∃E' v av L',e=.returned v/\E.le E'/\Q av L'/\VR E' av v/\Rel w0 S0 E' L' w') G.defers .returning w':=by
  refine OR (wE:=w) (SE:=⟨JT E L,w.heap.size⟩) (E:=E') (L:=L') (λB m=>?_) _ _ (b.rel j.1) j.2.2.2.2.1 λd hd=>?_
  obtain⟨A,T,V⟩:=HQ C g3 g4 m j.2.1;obtain⟨Y,av,ad,k3,k4,k5,k6⟩:=R w0 S0 E E' B _ g1 (λi N=>⟨l.fresh i N,l.tkfresh i N⟩) l.refs (l.back m) (V3 T);have I:(results fn G.tmps).run P B=.ok (if h:A.length=1 then A[0]else .tuple ⟨A⟩) B:=by unfold results;rw[Array.mapM_eq_mapM_toList];simp only[abF,Sem.run_map];refine(congrArg (λr=>(Result.andThen r λx w=>Result.ok x.toArray w).andThen _) V).trans ?_;simp
  grind
  obtain⟨D,p,K,q,O,h4⟩:=j.2.2.2.2.2 d hd;refine⟨D,p,by rw[b.low]at K;exact K,λho=>?_,?_⟩;rcases j.1.ownSub D ho with S|S;simp_all;omega;rw[j.1.frame D q O];exact h4
 rcases W with rfl|rfl<;>exact key
theorem ag{L0 L:List Blk}{r:AV}{Q:AV->List Blk->Prop}(h:Q r L):Fin L0 r L Q:=λw0 S0 E0 E w v a _ _ b c=>⟨E,r,L,a,h,c,b⟩
theorem V5{E0 E:Env}{n m:Nat}(d:E0.le E)(l:∀i,n<=i->E0.loc i=none/\E0.tok i=none)(k:n<=m)(g:Nat->Nat)(e:∀i,i<n->g i=i):E0.le (E.res m g):=by
 have lt:∀i,(E0.loc i≠none\/E0.tok i≠none)->i<n:=λi a=>by grind
 refine⟨λb o x j=>d.mem b o x j,λi c f=>?_,λi t h=>?_⟩;have a:=lt i (.inl (by simp[f]));rw[Env.res_loc aeu,e i a];exact d.loc i c f;have a:=lt i (.inr (by simp[h]));rw[Env.res_tok aeu,e i a];exact d.tok i t h
theorem XB{L0 L1 L2:List Blk}{r:AV}{Q:AV->List Blk->Prop}(n:L1.length=L0.length)(g:(∀k∈L0,k.refs (λi=>decide (i<L0.length))=true)->∀k∈L1,k.refs (λi=>decide (i<L0.length))=true)(hr:r.refs (λi=>decide (i<L0.length))=true)(h:Q r L1):Fin L0 r (L1++L2) Q:=λw0 S0 E0 E w v d j m f o=>by
 have a:=f.cut (by rw[n];exact g m);refine⟨E.res L1.length id,r,L1,V5 d j aeu id (λ_ _=>rfl),h,VR.cut (E:=E) (E':=E.res L1.length id) (p:=λi=>decide (i<L0.length)) (λ_ _ _ x=>x) (λi c b e=>?_) (λi t b l=>?_) r v hr o,a⟩
 .rw [Env.res_loc (by have : i < L0.length := by simpa using b
                      omega)];exact e
 .rw [Env.res_tok (by have : i < L0.length := by simpa using b
                      omega)];exact l
theorem aB{L0 L:List Blk}{r:AV}{Q:AV->List Blk->Prop}(h:Fin L0 r.frz L Q):Fin L0 r L Q:=λw0 S0 E0 E w v a c d b e =>
 h w0 S0 E0 E w v a c d b (VR.frz _ _ e)
theorem XE{res:List RE}{L0 L':List Blk}{T:Tm}{Q:AV->List Blk->Prop}{c:Prop}{rs:List AV}(h:LP T L' res=some (c,rs))(a:c)(b:Fin L0 (Py rs) L' Q):Y8 res L0 Q .ret T L':=⟨.inr rfl,c,rs,h,a,b⟩
theorem JW{res:List RE}{L0 L':List Blk}{T:Tm}{Q:AV->List Blk->Prop}{c:Prop}{rs:List AV}(h:LP T L' res=some (c,rs))(a:c)(b:Fin L0 (Py rs) L' Q):Y8 res L0 Q .normal T L':=⟨.inl rfl,c,rs,h,a,b⟩
theorem ae{L0 L2:List Blk}{r:AV}{Q:AV->List Blk->Prop}(hr:r.refs (λi=>decide (i<L0.length))=true)(h:Q r L0):Fin L0 r (L0++L2) Q :=
 XB rfl (λh=>h) hr h
mutual
def AV.snap(i:Nat)(l:List AV):AV->AV
 |.lsl j off n cap s=>if j=i then .sl ((l.drop off).take (n*s)) n cap else .lsl j off n cap s
 |.agg xs=>.agg (AV.snapL i l xs)
 |.tup xs=>.tup (AV.snapL i l xs)
 |a=>a
def AV.snapL(i:Nat)(l:List AV):List AV->List AV
 |[]=>[]
 |a::xs=>AV.snap i l a::AV.snapL i l xs
end
mutual
theorem VR.snap{i:Nat}{l:List AV}{c:Loc}(g:E.loc i=some c)(h:VRC E l c.blk c.off):∀(a:AV) (v:Value),VR E a v->VR E (a.snap i l) v
 | .lsl j off n cap s,v,r=>by
   simp only[AV.snap];split
   .rename_i e;subst e;simp only[VR]at r⊢;obtain⟨c',m,d,b,rfl,f,o,h4,p⟩:=r;rw[g]at b;cases b;refine⟨_,m,rfl,o,h4,.inr ⟨c.blk,d,rfl,?_⟩⟩;rcases acP n with k|k
    .subst k;simp[VRC]
    .rw[f aeu];exact(h.drop off).take _
   .exact r
 |.agg xs,v,r=>by simp only[AV.snap,VR]at r⊢;obtain⟨vs,b,f⟩:=r;exact⟨vs,b,VRL.snap g h xs vs f⟩
 |.tup xs,v,r=>by simp only[AV.snap,VR]at r⊢;obtain⟨vs,b,f⟩:=r;exact⟨vs,b,VRL.snap g h xs vs f⟩
 |.undef,_,r=>r
 |.bool _,_,r=>r
 |.anyb,_,r=>r
 |.int _ _,_,r=>r
 |.str _,_,r=>r
 |.nilptr,_,r=>r
 |.gptr _ _,_,r=>r
 |.ptr _ _,_,r=>r
 |.iptr _ _,_,r=>r
 |.nilsl,_,r=>r
 |.sl _ _ _,_,r=>r
 |.gsl _ _ _ _,_,r=>r
 |.nilmap,_,r=>r
 |.lmap _,_,r=>r
 |.yld _,_,r=>r
 |.func _ _,_,r=>r
 |.nilfunc,_,r=>r
 |.nilif,_,r=>r
 |.iface _ _,_,r=>r
theorem VRL.snap{i:Nat}{l:List AV}{c:Loc}(b:E.loc i=some c)(d:VRC E l c.blk c.off):∀(xs:List AV) (vs:List Value),VRL E xs vs->VRL E (AV.snapL i l xs) vs
 |[],_,r=>r
 |a::xs,vs,r=>by simp only[AV.snapL,VRL]at r⊢;obtain⟨x,e,f,g,h⟩:=r;exact⟨x,e,f,VR.snap b d a x g,VRL.snap b d xs e h⟩
end
theorem EG{L0 L:List Blk}{r:AV}{Q:AV->List Blk->Prop}{i:Nat}{l:List AV}(d:L[i]?=some (.cells l))(h:Fin L0 (r.snap i l) (L.set i .dead) Q):Fin L0 r L Q:=λw0 S0 E0 E w v e g j a k=>by obtain⟨c,cs,ty,fr,b,_⟩:=a.blk i _ d;obtain⟨E',g1,f,g3,g4⟩:=a.snap d b;exact h w0 S0 E0 E' w v (e.trans g1) g j f (VR.snap (by rw[g4];exact b) g3 _ _ (VR.mono g1 _ _ k))
end
theorem PS(L:List α)(x:α)(l:List α):(L++x::l)[L.length]?=some x:=aev
theorem xW(L l:List α)(k:Nat):(L++l)[L.length+k]?=l[k]?:=by grind
theorem Yd(L:List α)(x y:α)(l:List α):(L++x::l).set L.length y=L++y::l:=by simp
theorem Yc(L l:List α)(k:Nat)(y:α):(L++l).set (L.length+k) y=L++l.set k y:=by simp
theorem Y1(L l m:List α):(L++l)++m=L++(l++m):=abK _ _ _
theorem af{n:Int}(a : -9223372036854775808<=n)(b:n<9223372036854775808):IntKind.i64.wrap n=n:=by simp only[IntKind.wrap,IntKind.bits,IntKind.signed];simp;omega
theorem abu(j:Nat)(h:j<9223372036854775807):IntKind.i64.wrap ((j:Int)+1)=(j:Int)+1:=af aeu aeu
theorem qd{n:Int}(a:0<=n)(b:n<256):IntKind.u8.wrap n=n:=by simp only[IntKind.wrap,IntKind.bits,IntKind.signed];simp;omega
theorem G3{n:Int}(a:0<=n)(b:n<18446744073709551616):IntKind.u64.wrap n=n:=by simp only[IntKind.wrap,IntKind.bits,IntKind.signed];simp;omega
theorem fQ{P:Program}{N:Nat}{own:Nat->Nat->Nat}{Q:Exit->Tm->List Blk->Prop}{T:Tm}{L:List Blk}{x:Opd}{y z:aS}(a:evX T x=some (.bool true))(h:AW P N own y Q T L):AW P N own (.cond x y z) Q T L :=
 eQ a (λ_=>h) (λe=>by cases e)
theorem fR{P:Program}{N:Nat}{own:Nat->Nat->Nat}{Q:Exit->Tm->List Blk->Prop}{T:Tm}{L:List Blk}{x:Opd}{y z:aS}(a:evX T x=some (.bool false))(h:AW P N own z Q T L):AW P N own (.cond x y z) Q T L :=
 eQ a (λe=>by cases e) (λ_=>h)
def aa9(v:AV)(xs:List Int):Prop:=(v=.nilsl/\xs=[])\/∃cap,v=.sl (xs.map (AV.int .i64)) xs.length cap
theorem Ur{p:Nat->Bool}(xs:List Int):AV.refsL p (xs.map (AV.int .i64))=true:=AV.refsL_iff.2 λa b=>by obtain⟨x,_,rfl⟩:=abB.1 b;rfl
theorem aa9.refs{p:Nat->Bool}{xs:List Int}(h:aa9 v xs):v.refs p=true:=by rcases h with⟨rfl,_⟩|⟨cap,rfl⟩;rfl;exact Ur xs
theorem dN{p:Prop}[Decidable p]{A B:Prop}(b:p->A)(a:¬p->B):if p then A else B:=by simp_all
theorem cD{p:Prop}[Decidable p]{A B:Prop}(b:p->B)(a:¬p->A):if ¬p then A else B:=by simp_all
def Zs(L0 L':List Blk)(Q:AV->List Blk->Prop):Option (Prop×List AV)->Prop
 |some (c,rs)=>c/\Fin L0 (Py rs) L' Q
 |none=>False
theorem S4{L0:List Blk}{Q:AV->List Blk->Prop}{c:Prop}{rs:List AV}:Zs L0 L' Q (some (c,rs))=(c/\Fin L0 (Py rs) L' Q):=rfl
theorem dO{res:List RE}{L0:List Blk}{T:Tm}{Q:AV->List Blk->Prop}(h:Zs L0 L' Q (LP T L' res)):Y8 res L0 Q .ret T L':=by rcases hr:LP T L' res with _|⟨c,rs⟩;rw[hr]at h;exact h.elim;rw[hr]at h;exact XE hr h.1 h.2
def Hid(p:Prop):Prop:=p
theorem hid{p:Prop}(h:p):Hid p:=h
theorem Hid.o{p:Prop}(h:Hid p):p:=h
theorem Kto{K:AV->List Blk->Prop}{L:List Blk}{a b:AV}(h:K a L)(e:a=b):K b L:=e▸h
def OJ(T' T:Tm):Prop:=∀p∈T',∃v,aq T p.1=some v/\(p.2=v\/p.2=v.frz)
theorem TR.sub{E:Env}{T:Tm}{a:Act}(r:TR E T a)(h:OJ T' T):TR E T' a:=λt v d=>by obtain⟨u,c,b⟩:=h _ (Jz d);have:=r t u c;rcases b with b|b;simp_all;simp only at b;subst b;exact VR.frz _ _ this
theorem EE{T:Tm}:OJ [] T:=λp h=>by cases h
theorem j7{T:Tm}{t:Nat}{u:AV}(h:aq T t=some u)(e:v=u)(b:OJ T' T):OJ ((t,v)::T') T:=λp a=>by rcases abY.1 a with rfl|a;simp[*];exact b p a
theorem yk{T:Tm}{t:Nat}{u:AV}(h:aq T t=some u)(e:v=u.frz)(b:OJ T' T):OJ ((t,v)::T') T:=λp a=>by rcases abY.1 a with rfl|a;simp[*];exact b p a
def Cut(B:Nat)(T':Tm)(L':List Blk)(T:Tm)(L:List Blk):Prop :=
 OJ T' T/\∃X,L=L'++X/\B<=L'.length/\(X=[]\/((∀p∈T',p.2.refs (λi=>decide (i<L'.length))=true)/\∀k∈L',k.refs (λi=>decide (i<L'.length))=true))
theorem EI{T:Tm}{L:List Blk}(h:OJ T' T)(a:B<=L.length):Cut B T' L T L:=⟨h,[],aev,a,.inl rfl⟩
theorem CutS{B:Nat}{T' T:Tm}{L:List Blk}(a:OJ T' T:=by repeat' first|exact EE|refine j7 rfl rfl ?_|refine yk rfl rfl ?_)(b:B<=L.length):Cut B T' L T L:=EI a b
theorem CutL{B:Nat}{T' T:Tm}{L:List Blk}(a:OJ T' T:=by repeat' first|exact EE|refine j7 rfl rfl ?_|refine yk rfl rfl ?_|refine j7 rfl (congrArg (AV.int _) aeu) ?_|refine j7 rfl (by first|(simp_all;done)|(simp_all;omega)|(simp_all;intros;omega)) ?_)(b:B<=L.length):Cut B T' L T L:=EI a b
abbrev abw:=@ac Tryz.prog
abbrev abx:=AV->List Blk->Prop
abbrev Ctr(P:Program)(f:FuncId)(A:List AV)(v:AV):Prop:=∀{L:List Blk}{K:AV->List Blk->Prop},K v L->ac P f A L K
theorem aeB{P:Program}{f:FuncId}{A:List AV}{v:AV}(h:Ctr P f A v):Hid (Ctr P f A v):=hid h
abbrev o0(x:LOp):SOp:=.op ⟨none,x,none⟩
abbrev o1(n:Nat)(x:LOp):SOp:=.op ⟨some n,x,none⟩
abbrev og(n t:Nat)(b:Bool)(x:LOp):SOp:=.op ⟨some n,x,some (t,b)⟩
abbrev od(n:Nat)(x:LOp)(k:Kd):aj×Kd:=(⟨some n,x,none⟩,k)
abbrev tm(t:Nat):Opd:=.tmp t
abbrev iv(n:Int):Opd:=.av (.int .i64 n)
attribute [push_cast] o0 o1 og od tm iv
abbrev aen(x:List SOp)(m:List Bool)(r:aS):aS:=.seq (.sreg x m) r
abbrev aeo(t:Nat)(a b:aS):aS:=.cond (.tmp t) a b
abbrev aep(t:Nat)(a:aS):aS:=.cond (.tmp t) (.seq a .ret) .skip
abbrev aeq(n:Nat)(a:aS):aS:=.block n (.loop a)
abbrev aer(t n:Nat):aS:=.cond (.tmp t) .skip (.exit n)
attribute [push_cast] aen aeo aep aeq aer
noncomputable abbrev aes(n:Nat):=aM Tryz.prog (λ_ _=>1) n
abbrev aet(c:aI):=some c.raw
abbrev Aa(a b:Nat):SOp:=.op ⟨some a,(.mv (.tmp b)),none⟩
abbrev Ab(a:Nat)(b:Int):SOp:=.op ⟨some a,(.mv (.av (.int .i64 b))),none⟩
abbrev Ac(a b c:Nat):SOp:=.op ⟨some a,(.load false b (.tmp c)),none⟩
abbrev Ad(a b c:Nat):SOp:=.op ⟨some a,(.faddr b (.tmp c)),none⟩
abbrev Ae(a b:Nat):SOp:=.op ⟨some a,(.nilchk (.tmp b)),none⟩
abbrev Af(a b c:Nat):SOp:=.op ⟨some a,(.call b [(.tmp c)]),none⟩
abbrev Ag(a b c:Nat):SOp:=.op ⟨none,(.store a (.tmp b) (.tmp c)),none⟩
abbrev Ah(a b:Nat):SOp:=.op ⟨some a,(.len false (.tmp b)),none⟩
abbrev Ai(a b c:Nat):SOp:=.op ⟨some a,(.mv (.tmp c)),some (b,false)⟩
abbrev Aj(a b:Nat)(c:Int):SOp:=.op ⟨some a,(.bin .add (.tmp b) (.av (.int .i64 c))),none⟩
abbrev Ak(a b c:Nat):SOp:=.op ⟨some a,(.mv (.tmp c)),some (b,true)⟩
abbrev Al(a b:Nat):SOp:=.op ⟨some a,(.extract (.tmp b) 0),none⟩
abbrev Am(a b:Nat):SOp:=.op ⟨some a,(.extract (.tmp b) 1),none⟩
abbrev An(a b:Nat):aj×Kd:=(⟨some a,(.mv (.tmp b)),none⟩,.pure)
abbrev Ao(a:Nat):SOp:=.op ⟨some a,(.mv (.av (.sl [] 0 (some 0)))),none⟩
abbrev Ap(a b c:Nat):aj×Kd:=(⟨some a,(.faddr b (.tmp c)),none⟩,.pure)
abbrev Aq(a b c d e:Nat):aj×Kd:=(⟨some a,(.load false b (.tmp c)),none⟩,(.read d e))
abbrev Ar(a:Nat):SOp:=.op ⟨some a,(.mv (.av (.str []))),none⟩
abbrev As(a:Nat):SOp:=.op ⟨some a,(.mv (.av (.bool false))),none⟩
abbrev Au(a b c:Nat):SOp:=.op ⟨some a,(.bin .lss (.tmp b) (.tmp c)),none⟩
abbrev Aw(a b c d:Nat):SOp:=.op ⟨some a,(.iaddr b (.tmp c) (.tmp d)),none⟩
abbrev Ax(a b:Nat)(c:Int):SOp:=.op ⟨some a,(.bin .neq (.tmp b) (.av (.int .i64 c))),none⟩
abbrev Ay(a b c d:Nat):SOp:=.op ⟨some a,(.call b [(.tmp c),(.tmp d)]),none⟩
abbrev Az(a b:Nat)(c:Int):SOp:=.op ⟨some a,(.bin .eql (.tmp b) (.av (.int .i64 c))),none⟩
abbrev A0(a b c:Nat):SOp:=.op ⟨some a,(.load true b (.tmp c)),none⟩
abbrev A1(a b c d:Nat):aj×Kd:=(⟨some a,(.nilchk (.tmp b)),none⟩,(.read c d))
abbrev A3(a b:Nat):SOp:=.op ⟨some a,(.box (.tmp b)),none⟩
abbrev A4(a b:Nat):SOp:=.op ⟨some a,(.len true (.tmp b)),none⟩
abbrev A5(a b:Nat):SOp:=.op ⟨some a,(.un .not (.tmp b)),none⟩
abbrev A6(a b:Nat):SOp:=.op ⟨some a,(.eqk false .ptr (.tmp b) (.av .nilptr)),none⟩
abbrev A7(a b c:Nat):SOp:=.op ⟨some a,(.bin .add (.tmp b) (.tmp c)),none⟩
abbrev A8(a b c d:Nat):SOp:=.op ⟨some a,(.load false c (.tmp d)),some (b,false)⟩
abbrev A9(a b c d:Nat):SOp:=.op ⟨some a,(.faddr c (.tmp d)),some (b,false)⟩
abbrev AA(a b:Nat):SOp:=.op ⟨some a,(.conv .u64 (.tmp b)),none⟩
abbrev AB(a b:Nat)(c:Int):SOp:=.op ⟨some a,(.bin .gtr (.tmp b) (.av (.int .i64 c))),none⟩
abbrev AC(a b c:Nat)(d:Int):SOp:=.op ⟨some a,(.bin .eql (.tmp c) (.av (.int .i64 d))),some (b,true)⟩
abbrev AD(a:Nat):SOp:=.op ⟨some a,(.alloc [(.int .i64 0),(.str []),(.sl [] 0 (some 0))]),none⟩
abbrev AE(a b c:Nat)(d:Int):SOp:=.op ⟨some a,(.call b [(.tmp c),(.av (.int .i64 d))]),none⟩
abbrev AF(a b:Nat)(c:Int):SOp:=.op ⟨some a,(.bin .lss (.tmp b) (.av (.int .i64 c))),none⟩
abbrev AH(a:Nat):SOp:=.op ⟨some a,(.mv (.av .nilptr)),none⟩
abbrev AI(a b c:Nat)(d:Int):SOp:=.op ⟨some a,(.bin .gtr (.tmp c) (.av (.int .i64 d))),some (b,false)⟩
abbrev AJ(a:Nat):SOp:=.op ⟨some a,(.mv (.av (.bool true))),none⟩
abbrev AK(a b:Nat):SOp:=.op ⟨some a,(.bslice false 1 1 [(.str [])] [(0,(1,(.tmp b)))]),none⟩
abbrev AM(a b:Nat)(c:Int):SOp:=.op ⟨some a,(.bin .sub (.tmp b) (.av (.int .i64 c))),none⟩
abbrev AN(a b c d e:Nat):aj×Kd:=(⟨some a,(.call b [(.tmp c)]),none⟩,(.read d e))
abbrev AO(a b c d:Nat):SOp:=.op ⟨some a,(.load false c (.tmp d)),some (b,true)⟩
abbrev AP(a b:Nat):SOp:=.op ⟨some a,(.extract (.tmp b) 2),none⟩
abbrev AS(a b c:Nat):SOp:=.op ⟨some a,(.len false (.tmp c)),some (b,false)⟩
abbrev AT(a b c d:Nat):SOp:=.op ⟨some a,(.faddr c (.tmp d)),some (b,true)⟩
abbrev AU(a b c d e:Nat):SOp:=.op ⟨some a,(.call b [(.tmp c),(.tmp d),(.tmp e)]),none⟩
abbrev AX(a b c:Nat):SOp:=.op ⟨some a,(.mget .int false .nilptr (.tmp b) (.tmp c)),none⟩
abbrev AY(a:Nat):SOp:=.op ⟨some a,(.build [(.int .i64 0),(.sl [] 0 (some 0)),(.sl [] 0 (some 0)),(.sl [] 0 (some 0))] []),none⟩
abbrev AZ(a b c:Nat):SOp:=.op ⟨some a,(.bin .eql (.tmp b) (.tmp c)),none⟩
abbrev Ba(a b:Nat)(c:Int):SOp:=.op ⟨some a,(.idxS (.tmp b) (.av (.int .i64 c))),none⟩
abbrev Bb(a b:Nat):SOp:=.op ⟨some a,(.conv .i64 (.tmp b)),none⟩
abbrev Bc(a b c:Nat):SOp:=.op ⟨some a,(.app 1 1 16 [(.str [])] (.tmp b) (.tmp c)),none⟩
abbrev Bd(a b:Nat)(c:Int):SOp:=.op ⟨some a,(.bin .geq (.tmp b) (.av (.int .i64 c))),none⟩
abbrev Be(a b c:Nat):aj×Kd:=(⟨some a,(.bin .add (.tmp b) (.tmp c)),none⟩,.pure)
abbrev Bf(a b:Nat):SOp:=.op ⟨some a,(.b2s (.tmp b)),none⟩
abbrev Bg(a b:Nat):SOp:=.op ⟨some a,(.bslice false 1 1 [(.sl [] 0 (some 0))] [(0,(1,(.tmp b)))]),none⟩
abbrev Bh(a b c d:Nat)(e:Int):SOp:=.op ⟨some a,(.call b [(.tmp c),(.tmp d),(.av (.int .i64 e))]),none⟩
abbrev Bi(a b c:Nat):SOp:=.op ⟨some a,(.bin .sub (.tmp b) (.tmp c)),none⟩
abbrev Bj(a b c:Nat):SOp:=.op ⟨some a,(.len false (.tmp c)),some (b,true)⟩
abbrev Bk(a b c:Nat):SOp:=.op ⟨some a,(.app 1 1 1 [(.int .u8 0)] (.tmp b) (.tmp c)),none⟩
abbrev Bl(a:Nat):SOp:=.op ⟨some a,(.build [(.int .i64 0),(.str []),(.sl [] 0 (some 0))] []),none⟩
abbrev Bm(a b:Nat):SOp:=.op ⟨some a,(.bslice false 3 1 [(.int .i64 0),(.str []),(.sl [] 0 (some 0))] [(0,(3,(.tmp b)))]),none⟩
abbrev Bn(a b c:Nat)(d:Int):SOp:=.op ⟨some a,(.bin .eql (.tmp c) (.av (.int .i64 d))),some (b,false)⟩
abbrev Bo(a:Nat):SOp:=.op ⟨some a,(.alloc [(.int .i64 0),(.sl [] 0 (some 0)),(.sl [] 0 (some 0)),(.sl [] 0 (some 0))]),none⟩
abbrev Bp(a b c:Nat):SOp:=.op ⟨some a,(.nilchk (.tmp c)),some (b,false)⟩
abbrev Bq(a b c d:Nat):SOp:=.op ⟨some a,(.call c [(.tmp d)]),some (b,true)⟩
abbrev Br(a b c:Nat):SOp:=.op ⟨some a,(.app 1 3 48 [(.int .i64 0),(.str []),(.sl [] 0 (some 0))] (.tmp b) (.tmp c)),none⟩
abbrev Bt(a b c:Nat)(d:Int):SOp:=.op ⟨some a,(.bin .neq (.tmp c) (.av (.int .i64 d))),some (b,true)⟩
abbrev Bu(a b c:Nat):SOp:=.op ⟨some a,(.app 1 1 24 [(.sl [] 0 (some 0))] (.tmp b) (.tmp c)),none⟩
abbrev Bv(a b c:Nat):SOp:=.op ⟨some a,(.call b [(.tmp c),(.av (.sl [] 0 (some 0)))]),none⟩
abbrev Bw(a b c:Nat)(d:Int):SOp:=.op ⟨some a,(.iaddr b (.tmp c) (.av (.int .i64 d))),none⟩
abbrev Bx(a:Nat):SOp:=.op ⟨some a,(.alloc [(.int .u64 0),(.int .u64 0),(.int .u64 0),(.int .u64 0),(.str [])]),none⟩
abbrev By(a b c:Nat)(d:Int):SOp:=.op ⟨some a,(.idxS (.tmp c) (.av (.int .i64 d))),some (b,false)⟩
abbrev Bz(a b:Nat)(c d:Int):SOp:=.op ⟨some a,(.build [.nilptr,(.int .i64 0),(.int .i64 0)] [(0,(1,(.tmp b))),(1,(1,(.av (.int .i64 c)))),(2,(1,(.av (.int .i64 d))))]),none⟩
abbrev B0(a:Nat)(b:Int)(c:Nat):SOp:=.op ⟨some a,(.bin .add (.av (.int .i64 b)) (.tmp c)),none⟩
abbrev B3(a:Nat)(b:Int)(c:Nat):SOp:=.op ⟨some a,(.minmax true [(.av (.int .i64 b)),(.tmp c)]),none⟩
abbrev B4(a b c d:Nat):SOp:=.op ⟨some a,(.bin .neq (.tmp c) (.tmp d)),some (b,false)⟩
abbrev B5(a b c:Nat):SOp:=.op ⟨some a,(.slS (.tmp b) (some (.tmp c)) none),none⟩
abbrev B6(a b c:Nat):SOp:=.op ⟨some a,(.nilchk (.tmp c)),some (b,true)⟩
abbrev B7(a b:Nat):SOp:=.op ⟨some a,(.bslice false 1 1 [(.int .u8 0)] [(0,(1,(.tmp b)))]),none⟩
abbrev B8(a b c:Nat):SOp:=.op ⟨some a,(.bin .eql (.tmp c) (.av (.int .u8 32))),some (b,true)⟩
abbrev B9(a b c:Nat):SOp:=.op ⟨some a,(.idxS (.tmp b) (.tmp c)),none⟩
abbrev BA(a b c:Nat):SOp:=.op ⟨some a,(.len true (.tmp c)),some (b,false)⟩
abbrev BB(a b:Nat):SOp:=.op ⟨some a,(.bin .eql (.tmp b) (.av (.str []))),none⟩
abbrev BC(a b:Nat)(c:Int)(d:Nat):SOp:=.op ⟨some a,(.call b [(.av (.int .i64 c)),(.tmp d)]),none⟩
abbrev BD(a:Nat):SOp:=.op ⟨some a,(.alloc [(.str []),(.sl [] 0 (some 0))]),none⟩
abbrev BE(a b c:Nat):SOp:=.op ⟨some a,(.callv (.tmp b) [(.tmp c)]),none⟩
abbrev BF(a b:Nat)(c:Int):SOp:=.op ⟨some a,(.slS (.tmp b) (some (.av (.int .i64 c))) none),none⟩
abbrev BG(a:Nat):SOp:=.op ⟨some a,(.build [(.int .u64 0),(.int .u64 0),(.int .u64 0),(.int .u64 0),(.str [])] []),none⟩
abbrev BH(a b c:Nat)(d:Int):SOp:=.op ⟨some a,(.bin .lss (.tmp c) (.av (.int .i64 d))),some (b,false)⟩
abbrev BI(a b c:Nat)(d:Int):SOp:=.op ⟨some a,(.bin .geq (.tmp c) (.av (.int .i64 d))),some (b,false)⟩
abbrev BJ(a b c d:Nat):aj×Kd:=(⟨some a,(.len false (.tmp b)),none⟩,(.read c d))
abbrev BK(a b c:Nat)(d:Int):SOp:=.op ⟨some a,(.bin .sub (.tmp c) (.av (.int .i64 d))),some (b,true)⟩
abbrev BM(a:Nat):SOp:=.op ⟨some a,(.mv (.av (.int .u64 0))),none⟩
abbrev BN(a b:Nat):SOp:=.op ⟨some a,(.bin .eql (.tmp b) (.av (.int .u8 0))),none⟩
abbrev BO(a b c d e:Nat):aj×Kd:=(⟨some a,(.load true b (.tmp c)),none⟩,(.read d e))
abbrev BP(a b c d e:Nat):aj×Kd:=(⟨some a,(.slS (.tmp b) (some (.tmp c)) none),none⟩,(.read d e))
abbrev BQ(a b c:Nat):SOp:=.op ⟨some a,(.eqk false .ptr (.tmp c) (.av .nilptr)),some (b,false)⟩
abbrev BR(a b c:Nat):SOp:=.op ⟨some a,(.app 2 1 16 [(.str [])] (.tmp b) (.tmp c)),none⟩
abbrev BS(a b:Nat)(c:Int):SOp:=.op ⟨some a,(.slV 1 (.tmp b) (some (.av (.int .i64 c))) none none),none⟩
abbrev BT(a:Nat):SOp:=.op ⟨some a,(.alloc [(.str []),(.str [])]),none⟩
abbrev LSO:=List SOp
abbrev BU:List Bool:=[true,false]
abbrev BV:List Bool:=[true,false,false]
abbrev BW:List Bool:=[true,false,false,false]
abbrev BX:List Bool:=[true,false,false,false,false]
abbrev BY:List Bool:=[true,false,false,false,false,false,false]
abbrev BZ:List Bool:=[true,false,false,false,false,false]
abbrev Ca:List Bool:=[true,true,false]
abbrev Cb:List Bool:=[true,false,false,false,false,false,false,false]
abbrev Cc:List Bool:=[true,false,false,false,false,false,false,false,false,false]
abbrev Cd:List Bool:=[true,true,false,false,false,false,false]
abbrev Ce:List Bool:=[true,true,false,false,false]
abbrev Cf:List Bool:=[true,true,true,false]
abbrev Cg:List Bool:=[false,false,false,false]
abbrev Ch:List Bool:=[true,true,false,false,false,false,false,false]
abbrev Ci:List Bool:=[true,true,true,false,false,false,false,false,false]
abbrev Cj:List Bool:=[true,true,false,false]
abbrev Ck:List Bool:=[false,false,false]
abbrev Cl:List Bool:=[true,true,false,false,false,false,false,false,false]
abbrev Cm:List Bool:=[true,true,false,false,false,false,false,false,false,false]
abbrev Co:List Bool:=[true,false,false,false,false,false,false,false,false,false,false]
abbrev Cp:List Bool:=[false,false,false,false,false,false,false,false]
abbrev Cq:List Bool:=[false,false]
abbrev Cr:List Bool:=[true,true,false,false,false,false]
abbrev Cs:List Bool:=[false,false,false,false,false,false,false]
abbrev Ct:List Bool:=[false,false,false,false,false]
abbrev Cu:List Bool:=[false,false,false,false,false,false]
abbrev Cv:List Bool:=[true,false,false,false,false,false,false,false,false]
abbrev Cw:List Bool:=[true,true,false,false,false,false,false,false,false,false,false]
abbrev Cx:List Bool:=[true,true,true,false,false,false,false,false]
abbrev Cy:List Bool:=[true,true,true,false,false]
abbrev Cz:List Bool:=[true,true,false,false,false,false,false,false,false,false,false,false]
abbrev C0:List Bool:=[false,false,false,false,false,false,false,false,false,false,false,false,false,false]
abbrev C1:List Bool:=[false,true,false,false,false,false,false]
abbrev C2:List Bool:=[true,true,true,false,false,false,false,false,false,false,false]
abbrev C3:List Bool:=[true,false,false,false,false,false,false,false,false,false,false,false,false,false,false,false,false]
abbrev C4:List Bool:=[true,true,true,false,false,false,false]
abbrev C5:List Bool:=[true,false,false,false,false,false,false,false,false,false,false,false]
abbrev C6:List Bool:=[false,false,false,false,false,false,false,false,false]
abbrev C7:List Bool:=[false,false,false,false,false,false,false,false,false,false,false,false,false,false,false,false,false,false,false]
abbrev C8:List Bool:=[false,true,false,false,false,false,false,false]
abbrev C9:List Bool:=[false,false,false,false,false,false,false,false,false,false]
abbrev CA:List Bool:=[false,false,false,false,false,false,false,false,false,false,false]
abbrev CB:List Bool:=[true,false,false,false,false,false,false,false,false,false,false,false,false]
abbrev CC:List Bool:=[true,false,false,false,false,false,false,false,false,false,false,false,false,false]
attribute [push_cast] Aa Ab Ac Ad Ae Af Ag Ah Ai Aj Ak Al Am An Ao Ap Aq Ar As Au Aw Ax Ay Az A0 A1 A3 A4 A5 A6 A7 A8 A9 AA AB AC AD AE AF AH AI AJ AK AM AN AO AP AS AT AU AX AY AZ Ba Bb Bc Bd Be Bf Bg Bh Bi Bj Bk Bl Bm Bn Bo Bp Bq Br Bt Bu Bv Bw Bx By Bz B0 B3 B4 B5 B6 B7 B8 B9 BA BB BC BD BE BF BG BH BI BJ BK BM BN BO BP BQ BR BS BT BU BV BW BX BY BZ Ca Cb Cc Cd Ce Cf Cg Ch Ci Cj Ck Cl Cm Co Cp Cq Cr Cs Ct Cu Cv Cw Cx Cy Cz C0 C1 C2 C3 C4 C5 C6 C7 C8 C9 CA CB CC
section
variable {P:Program}{w0:World}{S0:SB}{N:Nat}{own:Nat->Nat->Nat}{Q:Exit->Tm->List Blk->Prop}{T:Tm}{L:List Blk}
theorem Rel.none_of{E:Env}{w:World}(h:Rel w0 S0 E L w):∀i,L.length<=i->E.loc i=none/\E.tok i=none:=λi a=>⟨h.fresh i a,h.tkfresh i a⟩
theorem St.cut{E0 E:Env}{a:Act}{w:World}{T':Tm}{L':List Blk}{B:Nat}(f:E0.le E)(m:∀i,B<=i->E0.loc i=none/\E0.tok i=none)(h:St w0 S0 N E T L a w)(b:Cut B T' L' T L):∃E',E0.le E'/\St w0 S0 N E' T' L' a w:=by obtain⟨g,X,rfl,d,n⟩:=b;rcases n with rfl|⟨k,l⟩;exact⟨E,f,by simpa using h.1,h.2.1.sub g,h.2.2⟩;refine⟨E.res L'.length id,V5 f m d id (λ_ _=>rfl),h.1.cut l,λt v j=>?_,h.2.2⟩;have:=(h.2.1.sub g) t v j;refine VR.cut (E:=E) (E':=E.res L'.length id) (p:=λi=>decide (i<L'.length)) (λ_ _ _ x=>x) (λi c e b=>?_) (λi c e b=>?_) v _ (k _ (Jz j)) this;rw[Env.res_loc (by simpa using e)];exact b;rw[Env.res_tok (by simpa using e)];exact b
def Nxt(B n:Nat)(I:Nat->Tm->List Blk->Prop)(T1:Tm)(L1:List Blk):Prop:=∃m T2 L2,m<n/\Cut B T2 L2 T1 L1/\I m T2 L2
def Mid(B:Nat)(R:Tm->List Blk->Prop)(T1:Tm)(L1:List Blk):Prop:=∃T2 L2,Cut B T2 L2 T1 L1/\R T2 L2
theorem au{B n:Nat}{I:Nat->Tm->List Blk->Prop}{T1:Tm}{L1:List Blk}(m:Nat)(a:Tm)(L2:List Blk)(b:m<n)(c:Cut B a L2 T1 L1)(d:I m a L2):Nxt B n I T1 L1:=⟨m,a,L2,b,c,d⟩
theorem aex{B:Nat}{T' T:Tm}{L:List Blk}(a:OJ T' T:=by repeat' first|exact EE|refine j7 rfl rfl ?_|refine yk rfl rfl ?_|refine j7 rfl (congrArg (AV.int _) aeu) ?_|refine j7 rfl (by first|(simp_all;done)|(simp_all;omega)|(simp_all;intros;omega)) ?_)(b:B<=L.length:=by simp):Cut B T' L T L:=EI a b
theorem aey{B:Nat}{T' T:Tm}{L:List Blk}(a:OJ T' T:=by repeat' first|exact EE|refine j7 rfl rfl ?_|refine yk rfl rfl ?_)(b:B<=L.length:=by simp):Cut B T' L T L:=EI a b
theorem aez{B n:Nat}{I:Nat->Tm->List Blk->Prop}{T1:Tm}{L1:List Blk}{m:Nat}{a:Tm}{L2:List Blk}(b:m<n)(c:Cut B a L2 T1 L1)(d:I m a L2):Nxt B n I T1 L1:=⟨m,a,L2,b,c,d⟩
theorem ym{B:Nat}{R:Tm->List Blk->Prop}{T1:Tm}{L1:List Blk}(a:Tm)(L2:List Blk)(b:Cut B a L2 T1 L1)(c:R a L2):Mid B R T1 L1:=⟨a,L2,b,c⟩
theorem ar{x:aS}(I:Nat->Tm->List Blk->Prop){n0:Nat}{T0:Tm}{L0:List Blk}(p:Cut L.length T0 L0 T L)(G:I n0 T0 L0)(round:∀n T' L',I n T' L'->AW P N own x (RB (Nxt L.length n I) Q) T' L'):AW P N own (.loop x) Q T L:=λc K r hr w0 S0 E a w i=>by
 classical
 obtain⟨c1,rfl,s⟩:=WB K;have v:=i.1.none_of
 let J:Act->World->Nat->Prop:=λa w n=>∃j l E' T' L',Bs w0 S0 j l/\E.le E'/\I n T' L'/\St j l N E' T' L' a w
 have d:∀a w,∃m,(∃n,J a w n)->J a w m/\∀k,J a w k->m<=k:=λa w=>by by_cases h:∃n,J a w n;obtain⟨n,V⟩:=h;obtain⟨m,s,O⟩:=PT (J a w) n V;exact⟨m,λ_=>⟨s,O⟩⟩;simp[*]
 let μ:Act->World->Nat:=λa w=>Classical.choose (d a w)
 have C:∀a w,(∃n,J a w n)->J a w (μ a w)/\∀k,J a w k->μ a w<=k:=λa w=>Classical.choose_spec (d a w)
 obtain⟨X,Z,e2⟩:=i.cut (.refl E) v p;refine wpIn_loop (λa w=>∃n,J a w n) μ ⟨n0,w0,S0,X,_,_,.refl _ _,Z,G,e2⟩ λa w W=>?_
 obtain⟨⟨j,l,E',T',L',b,g1,M,g3⟩,_⟩:=C a w W;refine wpIn_mono (round _ T' L' M c1 s r (λe=>hr (by simp[aS.hasRF,e])) j l E' a w g3) λe D w' ⟨F,u,q,o,t,A,y,B,z⟩=>?_
 cases e;obtain⟨m,R,L2,H,g,S⟩:=B;obtain⟨Y,U,q2⟩:=z.cut (g1.trans y) v g;have f:J D w' m:=⟨F,u,Y,R,L2,b.trans A,U,S,q2⟩;exact⟨⟨m,f⟩,Nat.lt_of_le_of_lt ((C D w' ⟨m,f⟩).2 m f) H⟩
 all_goals exact⟨F,u,q,o,t,b.trans A,g1.trans y,B,z⟩
theorem Mx{x y:aS}(R:Tm->List Blk->Prop)(h:AW P N own x (RB (Mid L.length R) Q) T L)(n:∀g L2,R g L2->L.length<=L2.length->AW P N own y Q g L2):AW P N own (.seq x y) Q T L:=λc o r hr w0 S0 E a w f=>by
 obtain⟨H,p,rfl,F,s⟩:=TJ o;refine wpIn_seq (wpIn_mono (h H F r (λe=>hr (by simp[aS.hasRF,e])) w0 S0 E a w f) λe I w' ⟨l,m,E',T',L',b,g1,k,g3⟩=>?_);cases e;obtain⟨g,L2,i,j⟩:=k;obtain⟨z,t,C⟩:=g3.cut g1 f.1.none_of i;obtain⟨_,X,_,d,_⟩:=i;exact wpIn_mono (n g L2 j d p s r (λe=>hr (by simp[aS.hasRF,e])) l m z I w' C) λe B A ⟨u,J,K,q,v,G,i,j,D⟩=>⟨u,J,K,q,v,b.trans G,t.trans i,j,D⟩
 all_goals exact⟨l,m,E',T',L',b,g1,k,g3⟩
theorem TR.cons{E:Env}{a:Act}{t:Nat}{v:AV}(r:TR E T a)(c:VR E v (a.tmps.getD t undef)):TR E ((t,v)::T) a:=λt' b h=>by simp only[aq]at h;split at h;simp_all;exact r t' b h
theorem cB{lc:aS}(t sz:Nat){l:List AV}{n:Nat}(x:aq T t=some (.sl l n (some n)))(k:l.length=n*sz)(h:AW P N own lc Q ((t,.gsl l n L.length sz)::T) (L++[.spare n sz])):AW P N own lc Q T L:=λc q r hr w0 S0 E a w d=>by
 obtain⟨g,j⟩:=d.1.addtok (n:=n) (sz:=sz) (lc:=none) Kx;have s:=d.2.1 t _ x;have i:=d.2.1.mono g;refine wpIn_mono (h c q r hr w0 S0 _ a w ⟨j,i.cons ?_,d.2.2⟩) λe D w' ⟨u,A,E',T1,L1,b,o,z,y⟩=>⟨u,A,E',T1,L1,b,g.trans o,z,y⟩
 have f:=VR.mono g _ _ s;obtain⟨p,c',m,v,B,C⟩:=f;exact⟨p,c',m,v,k,C,⟨n,sz,none⟩,aev,abA _,λ_=>⟨rfl,λ_=>B n rfl,aev⟩⟩
theorem iD{x:Opd}{y z:aS}{p:Prop}[Decidable p](b:evX T x=some (.bool (decide p)))(a:p->AW P N own y Q T L)(c:¬p->AW P N own z Q T L):AW P N own (.cond x y z) Q T L :=
 eQ b (λe=>a (of_decide_eq_true e)) (λe=>c (of_decide_eq_false e))
theorem iC{x:Opd}{y z:aS}{p:Prop}[Decidable p](b:evX T x=some (.bool (!decide p)))(a:¬p->AW P N own y Q T L)(c:p->AW P N own z Q T L):AW P N own (.cond x y z) Q T L :=
 eQ b (λe=>a (of_decide_eq_false (by simpa using e))) (λe=>c (of_decide_eq_true (by simpa using e)))
end
section
variable {P:Program}{K:Tm->Prop}{L L1:List Blk}{Ls:List (List Blk)}{p:AV}{d:Option Nat}{op:LOp}{rest:List aj}{T:Tm}{t:Nat}{b:Bool}{al:Option Nat}{n:Nat}
def Xu(L:List Blk)(k:AV->Prop):Option (Prop×AV×List Blk)->Prop
 |some (c,av,L')=>c/\L'=L/\k av
 |none=>False
theorem Vk{k:AV->Prop}{c:Prop}{av:AV}{L':List Blk}:Xu L k (some (c,av,L'))=(c/\L'=L/\k av):=rfl
def SW(L L1:List Blk)(k:AV->Prop):Option (Prop×AV×List Blk)->Option (Prop×AV×List Blk)->Prop
 |some (c,av,L'),some (c2,av2,L2)=>c/\L'=L/\c2/\av2=av/\L2=L1/\k av
 |_,_=>False
theorem Vj{k:AV->Prop}{c b:Prop}{av a:AV}{L' L2:List Blk}:SW L L1 k (some (c,av,L')) (some (b,a,L2))=(c/\L'=L/\b/\a=av/\L2=L1/\k av):=rfl
def aaz(P:Program)(f:FuncId)(L:List Blk)(k:AV->Prop):Option (List AV)->Prop
 |some args=>∃v,ac P f args L (λav L'=>av=v/\L'=L)/\k v
 |none=>False
def Y7(P:Program)(f:FuncId)(L L1:List Blk)(k:AV->Prop):Option (List AV)->Prop
 |some args=>∃v,ac P f args L (λav L'=>av=v/\L'=L)/\ac P f args L1 (λav L'=>av=v/\L'=L1)/\k v
 |none=>False
def RF(b:Bool)(y n:Prop):Option AV->Prop
 |some (.bool x)=>if x=b then y else n
 |some (.tup [])=>n
 |_=>False
theorem Vm{b x:Bool}{y n:Prop}:RF b y n (some (.bool x))=if x=b then y else n:=rfl
theorem Xz{b:Bool}{y n:Prop}:RF b y n (some (.tup []))=n:=rfl
def Zr(P:Program)(f:FuncId)(args:List AV)(L L1:List Blk)(k:AV->Prop):Prop:=∃v,ac P f args L (λav L'=>av=v/\L'=L)/\ac P f args L1 (λav L'=>av=v/\L'=L1)/\k v
theorem dr{f:FuncId}{args:List AV}{k:AV->Prop}{v:AV}(h:ac P f args L (λav L'=>av=v/\L'=L))(b:ac P f args L1 (λav L'=>av=v/\L'=L1))(a:k v):Zr P f args L L1 k:=⟨v,h,b,a⟩
theorem aay{f:FuncId}{k:AV->Prop}{args:List AV}:aaz P f L k (some args)=XD P f args L k:=rfl
theorem aax{f:FuncId}{k:AV->Prop}{args:List AV}:Y7 P f L L1 k (some args)=Zr P f args L L1 k:=rfl
theorem XG{o:aj}{v:AV}(h:o.op.isCall=false):AQv P o T L v=(match ak T L o.op with|some (c,av,L')=>c/\av=v/\L'=L|none=>False):=by obtain⟨d,op,g⟩:=o;cases op<;>simp only[LOp.isCall,ac8]at h<;>rfl
def OK(P:Program)(L:List Blk)(k:AV->Prop)(T:Tm)(op:LOp):Prop :=
 match op with
 |.call f xs=>aaz P f L k (iI T xs)
 |.callv f xs=>∃v,AQv P ⟨none,.callv f xs,none⟩ T L v/\k v
 |lo=>Xu L k (ak T L lo)
def Xr(P:Program)(L L1:List Blk)(k:AV->Prop)(T:Tm)(op:LOp):Prop :=
 match op with
 |.call f xs=>Y7 P f L L1 k (iI T xs)
 |.callv f xs=>∃v,(AQv P ⟨none,.callv f xs,none⟩ T L v/\AQv P ⟨none,.callv f xs,none⟩ T L1 v)/\k v
 |lo=>SW L L1 k (ak T L lo) (ak T L1 lo)
def AGK(P:Program)(K:Tm->List Blk->Prop)(Ls:List (List Blk))(H:List nh)(rest:List (aj×Kd))(d:Option Nat)(T:Tm)(av:AV):Prop:=AG P K rest Ls H (bz d av T)
def AGR(P:Program)(K:Tm->List Blk->Prop)(Ls:List (List Blk))(H:List nh)(rest:List (aj×Kd))(f:Nat)(o:aj)(T:Tm)(av:AV):Prop:=AG P K rest Ls (Sj f o T av H) (bz o.dst av T)
def AGE(P:Program)(K:Tm->List Blk->Prop)(Ls:List (List Blk))(H:List nh)(rest:List (aj×Kd))(d:Option Nat)(T:Tm)(av:AV)(L2:List Blk):Prop:=zS P L2 H/\AG P K rest (L2::Ls) (Hi H) (bz d av T)
def Xt(k:AV->List Blk->Prop):Option (Prop×AV×List Blk)->Prop
 |some (c,av,L2)=>c/\k av L2
 |none=>False
theorem Vi{k:AV->List Blk->Prop}{c:Prop}{av:AV}{L2:List Blk}:Xt k (some (c,av,L2))=(c/\k av L2):=rfl
def IsV(v av:AV):Prop:=av=v
theorem Z0{o:aj}{T:Tm}{v:AV}{H:List nh}:Sj 0 o T v H=H:=rfl
theorem ZZ{f:Nat}{o:aj}{T:Tm}{v:AV}{H:List nh}:Sj (f+1) o T v H=(f+1,o,T,v)::H:=rfl
theorem W4:Hi []=[]:=rfl
theorem W3{y:aj×Tm×AV}{H:List nh}:Hi ((1,y)::H)=Hi H:=rfl
theorem aaa{y:aj×Tm×AV}{H:List nh}:Hi ((n+2,y)::H)=(n+1,y)::Hi H:=rfl
theorem EV{k:AV->Prop}:(∃v,AQ P ⟨d,op,none⟩ T L v/\k v)=OK P L k T op:=by
 by_cases h:op.isCall=false;have e:OK P L k T op=Xu L k (ak T L op):=by cases op<;>simp only[LOp.isCall,ac8]at h<;>rfl
 rw[e];simp only[AQ,XG (o:=⟨d,op,none⟩) h];rcases ak T L op with _|⟨c,av,L'⟩;simp[Xu];simp only[Xu,eq_iff_iff]
 grind
 cases op<;>simp only[LOp.isCall,not_true_eq_false]at h;rename_i f xs;simp only[AQ,AQv,OK];rcases iI T xs with _|args;simp[aaz];rfl;rfl
theorem Zb{k:AV->Prop}:(∃v,(AQ P ⟨d,op,none⟩ T L v/\AQ P ⟨d,op,none⟩ T L1 v)/\k v)=Xr P L L1 k T op:=by
 by_cases h:op.isCall=false;have e:Xr P L L1 k T op=SW L L1 k (ak T L op) (ak T L1 op):=by cases op<;>simp only[LOp.isCall,ac8]at h<;>rfl
 rw[e];simp only[AQ,XG (o:=⟨d,op,none⟩) h];rcases ak T L op with _|⟨c,av,L'⟩<;>rcases ak T L1 op with _|⟨b,a,L2⟩;simp[SW];simp[SW];simp[SW];simp only[SW,eq_iff_iff]
 grind
 cases op<;>simp only[LOp.isCall,not_true_eq_false]at h;rename_i f xs;simp only[AQ,AQv,Xr];rcases iI T xs with _|args;simp[Y7];simp only[Y7,and_assoc];rfl
theorem S5{k:AV->Prop}{g:aj->AV->Prop}(a:∀v,g ⟨d,op,some (t,b)⟩ v=match aq T t with|some (.bool x)=>if x=b then g ⟨d,op,none⟩ v else v=.tup []|some (.tup [])=>v=.tup []|_=>False):
  (∃v,g ⟨d,op,some (t,b)⟩ v/\k v)=RF b (∃v,g ⟨d,op,none⟩ v/\k v) (k (.tup [])) (aq T t):=by
 simp only[a];rcases aq T t with _|x;simp[RF];cases x<;>simp only[RF,false_and,exists_false]
 grind
 grind
theorem aaB{K:Tm->List Blk->Prop}{H:List nh}:AG P K [] (L::Ls) H T=K T L:=rfl
theorem Zd{K:Tm->List Blk->Prop}{H:List nh}{r:List (aj×Kd)}:AG P K ((⟨d,op,none⟩,.pure)::r) (L::Ls) H T=OK P L (AGK P K (L::Ls) H r d T) T op:=EV
theorem XL{K:Tm->List Blk->Prop}{H:List nh}{r:List (aj×Kd)}:AG P K ((⟨d,op,some (t,b)⟩,.pure)::r) (L::Ls) H T=RF b (OK P L (AGK P K (L::Ls) H r d T) T op) (AGK P K (L::Ls) H r d T (.tup [])) (aq T t):=by rw[<- EV (d:=d)];exact S5 (g:=λo v=>AQ P o T L v) λv=>rfl
theorem XK{K:Tm->List Blk->Prop}{H:List nh}{r:List (aj×Kd)}{f:Nat}:AG P K ((⟨d,op,none⟩,.read 0 f)::r) (L::Ls) H T=OK P L (AGR P K (L::Ls) H r f ⟨d,op,none⟩ T) T op:=by rw[<- EV (d:=d)];simp only[AG,adx,ada,abV,forall_eq,AGR]
theorem Vq{K:Tm->List Blk->Prop}{H:List nh}{r:List (aj×Kd)}{f:Nat}:AG P K ((⟨d,op,some (t,b)⟩,.read 0 f)::r) (L::Ls) H T=RF b (OK P L (AGR P K (L::Ls) H r f ⟨d,op,some (t,b)⟩ T) T op) (AGR P K (L::Ls) H r f ⟨d,op,some (t,b)⟩ T (.tup [])) (aq T t):=by rw[<- EV (d:=d)];simp only[AG,adx,ada,abV,forall_eq];exact S5 (g:=λo v=>AQ P o T L v) (k:=AGR P K (L::Ls) H r f ⟨d,op,some (t,b)⟩ T) λv=>rfl
theorem XJ{K:Tm->List Blk->Prop}{H:List nh}{r:List (aj×Kd)}{f:Nat}:AG P K ((⟨d,op,none⟩,.read 1 f)::r) (L::L1::Ls) H T=Xr P L L1 (AGR P K (L::L1::Ls) H r f ⟨d,op,none⟩ T) T op:=by rw[<- Zb (d:=d)];simp only[AG,adx,ada,abY,acF,or_false,forall_eq_or_imp,forall_eq,AGR]
def aa7(P:Program)(L:List Blk)(k:AV->List Blk->Prop)(T:Tm)(op:LOp):Prop :=
 match op with
 |.call f xs=>∃v L2,EQv P ⟨none,.call f xs,none⟩ T L v L2/\k v L2
 |.callv f xs=>∃v L2,EQv P ⟨none,.callv f xs,none⟩ T L v L2/\k v L2
 |lo=>Xt k (ak T L lo)
theorem aaC{K:Tm->List Blk->Prop}{H:List nh}{r:List (aj×Kd)}:AG P K ((⟨d,op,none⟩,.eff)::r) (L::Ls) H T=aa7 P L (AGE P K (L::Ls) H r d T) T op:=by
 simp only[AG,EQ];have key:∀lo:LOp,lo.isCall=false->(∃v L2,EQv P ⟨d,lo,none⟩ T L v L2/\AGE P K (L::Ls) H r d T v L2)=Xt (AGE P K (L::Ls) H r d T) (ak T L lo):=λlo hlo=>by
  have e:∀v L2,EQv P ⟨d,lo,none⟩ T L v L2=(match ak T L lo with|some (c,av,L')=>c/\av=v/\L'=L2|none=>False):=λv L2=>by cases lo<;>simp only[LOp.isCall,ac8]at hlo<;>rfl
  simp only[e];rcases ak T L lo with _|⟨c,av,L'⟩;simp[Xt];simp only[Xt,eq_iff_iff]
  grind
 have key2:(∃v L2,EQv P ⟨d,op,none⟩ T L v L2/\zS P L2 H/\AG P K r (L2::L::Ls) (Hi H) (bz d v T))=(∃v L2,EQv P ⟨d,op,none⟩ T L v L2/\AGE P K (L::Ls) H r d T v L2):=rfl;cases op
 case call=>rfl
 case callv=>rfl
 all_goals exact key _ rfl
theorem Vl:zS P L []=True:=rfl
theorem SX{f:Nat}{v:AV}{H:List nh}:zS P L ((f,⟨d,op,none⟩,T,v)::H)=(OK P L (IsV v) T op/\zS P L H):=by rw[<- EV (d:=d)];simp[zS,IsV]
theorem Rz{f:Nat}{v:AV}{H:List nh}:zS P L ((f,⟨d,op,some (t,b)⟩,T,v)::H)=(RF b (OK P L (IsV v) T op) (IsV v (.tup [])) (aq T t)/\zS P L H):=by rw[<- EV (d:=d),<- S5 (g:=λo v=>AQ P o T L v) (k:=IsV v) (d:=d) (op:=op) (t:=t) (b:=b) (T:=T) λv=>rfl];simp[zS,IsV]
theorem jB{N:Nat}{own:Nat->Nat->Nat}{Q:Exit->Tm->List Blk->Prop}{qk:List (aj×Kd)}{ts:List aj}(h:AG P (ma P (Q .normal) ts) qk [L] [] T):AW P N own (.dregion qk ts) Q T L:=Oq h
end
theorem U3(xs:List Int):AV.frzL (xs.map (AV.int .i64))=xs.map (AV.int .i64):=by rw[AV.frzL_eq,abW];rfl
theorem Wk(xs:List Int):(xs.map (AV.int .i64)).all AV.one=true:=by rw[List.all_map];simp[AV.one]
theorem Zw:IntKind.i64.wrap 0=0:=by decide
theorem Zv:IntKind.i64.wrap 1=1:=by decide
theorem Zu:IntKind.i64.wrap 2=2:=by decide
theorem XO:IntKind.i64.wrap (-1)=-1:=by decide
structure Nx(p:Prop):Prop where
 o:p
structure NxI(c p:Prop):Prop where
 o:c->p
theorem nD{c p:Prop}(h:c->p):NxI c p:=⟨h⟩
theorem zT{p:Prop}(h:p):Nx p:=⟨h⟩
section
variable {P:Program}{L:List Blk}{body:List SOp}{d:Nat}{x:Opd}{k:Tm->Prop}{T:Tm}{c:Prop}[Decidable c]{p q:Bool}
theorem nF(h:NxI (c) (GL P L body (IsX x q) T))(a:Nx (k ((d,.bool (decide c&&q))::T))):GQ P L true body d x k T (decide c):=⟨q,λe=>h.o (of_decide_eq_true e),a.o⟩
theorem jw(h:NxI (¬c) (GL P L body (IsX x q) T))(a:Nx (k ((d,.bool (!decide c&&q))::T))):GQ P L true body d x k T (!decide c):=⟨q,λe=>h.o (by simpa using e),a.o⟩
theorem nG(h:NxI (¬c) (GL P L body (IsX x q) T))(a:Nx (k ((d,.bool (decide c ||q))::T))):GQ P L false body d x k T (decide c):=⟨q,λe=>h.o (of_decide_eq_false e),a.o⟩
theorem jx(h:NxI (c) (GL P L body (IsX x q) T))(a:Nx (k ((d,.bool (!decide c ||q))::T))):GQ P L false body d x k T (!decide c):=⟨q,λe=>h.o (by simpa using e),a.o⟩
theorem nH(h:NxI (p=true) (GL P L body (IsX x q) T))(a:Nx (k ((d,.bool (p&&q))::T))):GQ P L true body d x k T p:=⟨q,h.o,a.o⟩
theorem jy(h:NxI (p=false) (GL P L body (IsX x q) T))(a:Nx (k ((d,.bool (p ||q))::T))):GQ P L false body d x k T p:=⟨q,h.o,a.o⟩
variable {a b:Prop}[Decidable a][Decidable b]
theorem aam:(decide a&&decide b)=decide (a/\b):=(ad2 a b).symm
theorem aak:(!decide a&&decide b)=decide (¬a/\b):=by simp[ad2]
theorem aal:(decide a && !decide b)=decide (a/\¬b):=by simp[ad2]
theorem aaj:(!decide a && !decide b)=decide (¬a/\¬b):=by simp[ad2]
theorem aaM:(decide a ||decide b)=decide (a\/b):=(ad3 a b).symm
theorem aaK:(!decide a ||decide b)=decide (¬a\/b):=by simp[ad3]
theorem aaL:(decide a || !decide b)=decide (a\/¬b):=by simp[ad3]
theorem aaJ:(!decide a || !decide b)=decide (¬a\/¬b):=by simp[ad3]
end
attribute [push_cast] Y4 evD deg abQ aau abd aav Y5 abc abb aa6 aaq aa5 aap aar Tn Zi Zj XA abe T5 aba GOp IsX aam aak aal aaj aaM aaK aaL aaJ acU adg adA ad4 Bool.true_or Bool.or_true adw Bool.or_false adL adY
attribute [push_cast] Zw Zv Zu XO AGK AGR AGE IsV Vi Z0 ZZ W4 W3 aaa aaB Zd XL XK Vq XJ aaC aa7 Vl SX Rz Vk Vj aay aax Vm Xz OK Xr eq_self S4 Py XH Vp S6 xI Qc Xs XC Vn AOp ak evX iI aq bz bin YR YQ un eqA row kN AV.cells? bnd RB SY am LP Py elems app Of cX AV.frz AV.frzL U3 Wk ac2 Option.bind_none abQ acb acQ Option.getD_none if_true if_false true_and and_true abU ack abP abM acs adK PS xW Yd Yc Y1 acp aco ab1 ac1 acS Nat.mul_one Nat.one_mul acg Nat.mul_zero List.getD_cons_zero List.getD_cons_succ adL adY decide_true decide_false forall_const not_true_eq_false not_false_eq_true ne_eq abT ac8 adP ad5 adx ada bO List.set_cons_zero List.set_cons_succ ade List.all_nil AV.one Bool.and_self adg acU false_implies implies_true decide_eq_true_eq decide_eq_false_iff_not adz Int.toNat_zero Int.toNat_natCast acd Bool.not_not Bool.not_eq_false
theorem Rel.frzB{w0:World}{S0:SB}{E:Env}{L:List Blk}{w:World}(h:Rel w0 S0 E L w){i:Nat}{c:List AV}(z:L[i]?=some (.cells c)):Rel w0 S0 E (L.set i (.cells (AV.frzL c))) w:=by
 have l:i<L.length:=(aby.1 z).1;have m:∀(j:Nat) (k:Blk),(L.set i (.cells (AV.frzL c)))[j]?=some k->k.live=true->∃k',L[j]?=some k'/\k'.live=true:=λj k f r=>by rw[ace]at f;split at f;rename_i e;subst e;exact⟨_,z,rfl⟩;exact⟨k,f,r⟩
 have g:∀(j n sz:Nat),(L.set i (.cells (AV.frzL c)))[j]?=some (.spare n sz)->L[j]?=some (.spare n sz):=λj n sz f=>by rw[ace]at f;split at f;cases f;exact f
 refine⟨h.mem,λj k f=>?_,λi l=>h.fresh i (by simpa using l),λi k c f r H=>?_,λi j k k' c c' l F x M=>?_,
  λi l=>h.tkfresh i (by simpa using l),λi n sz t d l=>h.tkown i n sz t d (g i n sz l),λi n sz t d j k' c' l y hd x r=>?_,
  λi n sz t d B A q t' D l y hd s=>h.tkinj i n sz t d B A q t' D (g i n sz l) y hd (g B A q s),h.frame,h.size,h.os,h.tape,h.output,h.glob,h.gsz⟩
 rw[ace]at f;split at f;rename_i e;subst e;cases f;obtain⟨cl,cs,ty,fr,g1,I,g3,g4,J,K⟩:=h.blk _ _ z;refine⟨cl,cs,ty,fr,g1,I,g3,by rw[AV.frzL_eq];simpa using g4,λj a C=>?_,K⟩;rw[AV.frzL_eq,acy,abZ]at C;obtain⟨b,G,rfl⟩:=C;obtain⟨v,p,o⟩:=J j b G;exact⟨v,p,VR.frz _ _ o⟩;exact h.blk j k f;obtain⟨k',p,o⟩:=m i k f r;exact h.own i k' c p o H;obtain⟨u,p,o⟩:=m i k l F;obtain⟨N,O,h4⟩:=m j k' x M;exact h.inj i j u N c c' p o O h4;obtain⟨u,p,o⟩:=m j k' x r;exact h.tkloc i n sz t d j u c' (g i n sz l) y hd p o
theorem Za{P:Program}{N:Nat}{own:Nat->Nat->Nat}{Q:Exit->Tm->List Blk->Prop}{T:Tm}{L:List Blk}{lc:aS}(i:Nat){c:List AV}(f:L[i]?=some (.cells c))(h:AW P N own lc Q T (L.set i (.cells (AV.frzL c)))):AW P N own lc Q T L:=λe d r hr w0 S0 E a w b =>
 h e d r hr w0 S0 E a w ⟨b.1.frzB f,b.2⟩
theorem dQ{P:Program}{f:FuncId}{args:List AV}{L:List Blk}{K:AV->List Blk->Prop}(h:ac P f (AV.frzL args) L K):ac P f args L K:=λw0 S0 E w vs a b =>
 h w0 S0 E w vs a (VRL.frz _ _ b)
end Go.Proofs.YtajkbcmleihaoaaGreatDoor.Av
