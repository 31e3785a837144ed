/- Joined texts of the walk, made small by a program. -/
import Derived.Test.YtigifoeopopnbaaGreatDoorQk3
import Derived.Scope
import Derived.Test.YtigifoeopopnbaaGreatDoorProg
set_option linter.unusedSimpArgs false
set_option linter.unusedVariables false
namespace Go.Proofs.YtigifoeopopnbaaGreatDoor.Av
open Go
def EQv (P:Program) (o:ak) (T:Tm) (L:List Blk) (v:AV) (L2:List Blk):Prop :=
 match o.op with
 | .call f xs=>match gw T xs with
   | some args=>ae P f args L fun av L'=>av=v/\L'=L2
   | none=>False
 | .callv f xs=>match evX T f,gw T xs with
   | some (.func g caps),some args=>ae P g (args++caps) L fun av L'=>av=v/\L'=L2
   | _,_=>False
 | lo=>match aj T L lo with
   | some (c,av,L')=>c/\av=v/\L'=L2
   | none=>False
def EQ (P:Program) (o:ak) (T:Tm) (L:List Blk) (v:AV) (L2:List Blk):Prop :=
 match o.guard with
 | none=>EQv P o T L v L2
 | some (t,b)=>match ar T t with
   | some (.bool x)=>if x=b then EQv P o T L v L2 else v=.tup []/\L2=L
   | some (.tup [])=>v=.tup []/\L2=L
   | _=>False
theorem EQv.congr {P:Program} {o:ak} {T T':Tm} {L L2:List Blk} {v:AV} (h1:∀ t∈o.op.tmps,ar T t=ar T' t) (hv:EQv P o T L v L2):EQv P o T' L v L2:=by
 unfold EQv at hv ⊢;split at hv
 ·rename_i f xs e
  rw [e] at h1;rw [<- jw (l:=xs) h1];exact hv
 ·rename_i f xs e
  rw [e] at h1;simp only [LOp.tmps,aeo] at h1;rw [<- jw (l:=xs) (fun t ht=>h1 t (.inr ht)),<- az (x:=f) (fun t ht=>h1 t (.inl ht))];exact hv
 ·rw [<- NN h1];exact hv
theorem EQ.congr {P:Program} {o:ak} {T T':Tm} {L L2:List Blk} {v:AV} (h:∀ t∈o.reads,ar T t=ar T' t) (hq:EQ P o T L v L2):EQ P o T' L v L2:=by
 have h1:∀ t∈o.op.tmps,ar T t=ar T' t:=fun t ht=>h t (by simp [ak.reads,ht])
 unfold EQ at hq ⊢;split at hq
 ·exact hq.congr h1
 ·rename_i t b hg
  rw [<- h t (by simp [ak.reads,hg])];split at hq
  ·split at hq
   ·rename_i e;rw [if_pos e];exact hq.congr h1
   ·rename_i e;rw [if_neg e];exact hq
  ·exact hq
  ·exact hq.elim
theorem EQv.aop {P:Program} {o:ak} {T:Tm} {L L2:List Blk} {v:AV} (hq:EQv P o T L v L2):AOp P o (fun T' L'=>T'=cn o.dst v T/\L'=L2) T L:=by
 unfold EQv at hq;unfold AOp;split at hq
 ·rename_i f xs e
  simp only [e];split at hq
  ·rename_i args ha
   rw [ha];exact ae.mono hq fun av L' ⟨h1,h2⟩=>⟨by rw [h1],h2⟩
  ·exact hq.elim
 ·rename_i f xs e
  simp only [e];split at hq
  ·rename_i g caps args hf ha
   rw [hf,ha];exact ae.mono hq fun av L' ⟨h1,h2⟩=>⟨by rw [h1],h2⟩
  ·exact hq.elim
 ·rename_i lo h1 h2
  split at hq
  ·rename_i c av L' he
   have hres:Res (fun T' L'=>T'=cn o.dst v T/\L'=L2) o.dst T (aj T L o.op):=by
    rw [he];obtain ⟨hc,rfl,rfl⟩:=hq;exact ⟨hc,rfl,rfl⟩
   obtain ⟨d,lop,g⟩:=o;cases lop<;>first|exact hres|(simp [aj] at he)
  ·exact hq.elim
theorem EQ.aops {P:Program} {o:ak} {T:Tm} {L L2:List Blk} {v:AV} (hq:EQ P o T L v L2):jC P (fun T' L'=>T'=cn o.dst v T/\L'=L2) [o] T L:=by
 unfold EQ at hq;simp only [jC];split at hq
 ·rename_i hg
  simp only [hg];exact hq.aop
 ·rename_i t b hg
  simp only [hg];split at hq
  ·rename_i x hx
   rw [hx,H1];split at hq
   ·rename_i e;rw [if_pos e];exact hq.aop
   ·rename_i e;rw [if_neg e];exact ⟨by rw [hq.1],hq.2.symm⟩
  ·rename_i hx
   rw [hx,Xf];exact ⟨by rw [hq.1],hq.2.symm⟩
  ·exact hq.elim
def done (es:List Nat) (listed:Array Bool):Nat:=es.countP fun e=>listed.getD e false
theorem Pt:∀ (es:List Nat) (f:Nat->Bool) (m:Nat),(∀ (j e:Nat),es[j]?=some e->f e=decide (j<m))->m<=es.length->es.countP f=m
 | [],f,m,_,hm=>by simp at hm;simp [hm]
 | e::es,f,0,h,_=>by
   refine ag5.2 fun x hx=>?_
   obtain ⟨j,hj,rfl⟩:=aeU.1 hx;have:=h j _ (aev hj);simp [this]
 | e::es,f,m+1,h,hm=>by
   rw [List.countP_cons_of_pos (by have:=h 0 e rfl;simpa using this)];rw [Pt es f m (fun j x hx=>by have:=h (j+1) x (by simpa using hx);rw [this];congr 1;simp) (by simpa using hm)]
theorem Ph:∀ (es:List Nat) (f:Nat->Bool),(∀ (j j' e e':Nat),es[j]?=some e->es[j']?=some e'->j<j'->f e'=true->f e=true)->∀ (j e:Nat),es[j]?=some e->f e=decide (j<es.countP f)
 | [],f,_,j,e,h=>by simp at h
 | x::es,f,hp,j,e,h=>by
   have ih:=Ph es f fun a b y z h1 h2 h3=>hp (a+1) (b+1) y z (by simpa using h1) (by simpa using h2) (by omega)
   by_cases hx:f x=true
   ·rw [List.countP_cons_of_pos hx];cases j with
    | zero=>simp at h;subst h;simp [hx]
    | succ j=>rw [ih j e (by simpa using h)];congr 1;simp
   ·have all:∀ y∈es,f y=false:=fun y hy=>by
     obtain ⟨k,hk,rfl⟩:=aeU.1 hy;rcases hf:f es[k] with _|_
     ·rfl
     ·exact absurd (hp 0 (k+1) x es[k] rfl (by simp) (by omega) hf) hx
    rw [List.countP_cons_of_neg hx,ag5.2 (fun y hy=>by simp [all y hy])];simp only [Nat.not_lt_zero,decide_false];cases j with
    | zero=>simp at h;subst h;simpa using hx
    | succ j=>exact all e (aeQ (by simpa using h))
section
variable {P:Program} {r:Option Nat} {w0:World} {S0:SB} {N:Nat} {own:Nat->Nat} {ops:Array Oper} {L:List Blk}
theorem Wx {los:List ak} {n:Nat} (hlow:bO P N own ops (List.range ops.size)=some los) (hok:HI ops los n=true) {qs ts:List ak} (hsplit:los=qs++ts) (hn:qs.length=n) {es:List Nat} {Ms:Nat->List Blk} (hes:∀ e∈es,e<qs.length)
  (hch:∀ (j j' e e':Nat),es[j]?=some e->es[j']?=some e'->j<j'->((kO ops.toList []).getD e' 0).testBit e=true)
  {K:Tm->List Blk->Prop} {T:Tm} {Q:Exit->Act->World->Prop} {E0:Env} {tr:List AV} (htr:tr.length=qs.length)
  (hq:∀ (i:Nat) (o:ak) (v:AV),qs[i]?=some o->tr[i]?=some v->(∃ m,es[m]?=some i/\EQ P o (TL T qs tr 0 fun j=>decide (j<i)) (Ms m) v (Ms (m+1))) \/
   (i ∉ es/\∀ m,m<=es.length->(∀ (j e:Nat),es[j]?=some e->j<m->((kO ops.toList []).getD e 0).testBit i=false)->(∀ (j e:Nat),es[j]?=some e->m<=j->((kO ops.toList []).getD i 0).testBit e=false)->AQ P o (TL T qs tr 0 fun j=>decide (j<i)) (Ms m) v))
  (hK:jC P K ts (TL T qs tr 0 fun _=>true) (Ms es.length))
  (hQ:∀ E' T' L' a' w',E0.le E'->K T' L'->St w0 S0 N E' T' L' a' w'->Q .normal a' w') :
  ∀ (fuel:Nat) (listed:Array Bool) (a:Act) (w:World) (E:Env),listed.size=ops.size->listed.toList.count false=fuel->OS ops listed->E0.le E ->
   (∀ i,qs.length<=i->listed.getD i false=false)->St w0 S0 N E (TL T qs tr 0 fun j=>listed.getD j false) (Ms (done es listed)) a w->wpAnyIn (fL r) 0 P .any ops Q fuel listed a w:=by
 simp only [HI,aek] at hok;generalize htbl:kO ops.toList []=tbl at hok hch hq;obtain ⟨⟨⟨⟨hdist,htied⟩,hahead⟩,hfix⟩,hchain⟩:=hok;have hget:=ur hlow;have hlen:los.length=ops.size:=by simpa using hget.1
 have hlo:∀ i,i<ops.size->∃ lo,los[i]?=some lo/\jF P N own ops i=some lo:=fun i hi=>hget.2 i i (by simp [hi])
 have hD:Vw qs:=by
  have:=Rg hdist;rw [hsplit] at this;have sub:∀ (qs ts:List ak),Vw (qs++ts)->Vw qs:=by
   intro qs
   induction qs with
   | nil=>intro _ _;trivial
   | cons q qs ih=>intro ts h;exact ⟨fun p hp=>h.1 p (by simp [hp]),ih ts h.2⟩
  exact sub _ _ this
 have hqlen:qs.length+ts.length=ops.size:=by rw [<- hlen,hsplit];simp
 have allListed:∀ listed:Array Bool,listed.size=ops.size->Region.ready .any ops listed=[]->∀ i,i<ops.size->listed.getD i false=true:=by
  intro listed hsz hr i
  induction i using Nat.strongRecOn with
  | _ i ih =>
    intro hi;rcases hb:listed.getD i false with _|_
    ·exfalso;have:i∈Region.ready .any ops listed:=by
      refine mem_ready.2 ⟨?_,ops[i],ae0 hi,fun e he hbd=>?_⟩
      ·have hi':i<listed.size:=by omega
       simp [afb,hi'] at hb ⊢;exact hb
      ·have:=ael.1 hahead (ops[i],i) (by
        rw [agm];simp [hi])
       have:=ael.1 this e (by simpa using he);simp only [hbd,af2,afQ,decide_eq_true_eq] at this;exact ih e.on this (by omega)
     rw [hr] at this;cases this
    ·rfl
 have getD_eq:∀ (listed:Array Bool) (i:Nat),listed.size=ops.size->i<ops.size->listed.getD i true=listed.getD i false:=fun listed i h1 h2=>by
  have:i<listed.size:=by omega
  simp [afb,this]
 have finish:∀ (listed:Array Bool) (a:Act) (w:World) (E:Env) (fuel:Nat),listed.size=ops.size->listed.toList.count false=fuel->OS ops listed->E0.le E->(∀ i,qs.length<=i->listed.getD i false=false)->St w0 S0 N E (TL T qs tr 0 fun j=>listed.getD j false) (Ms (done es listed)) a w ->
   (∀ i,i<qs.length->listed.getD i false=true)->wpAnyIn (fL r) 0 P .any ops Q fuel listed a w:=by
  intro listed a w E fuel hsz hcnt hcl hE hnot hst hall;have hTL:TL T qs tr 0 (fun j=>listed.getD j false)=TL T qs tr 0 fun _=>true:=RP fun j hj=>by
   simp only [afJ];exact hall j hj
  have hL:Ms (done es listed)=Ms es.length:=by
   congr 1
   exact List.countP_eq_length.2 fun e he=>hall e (hes e he)
  rw [hTL,hL] at hst;have hdrop:los.drop qs.length=ts:=by rw [hsplit];simp
  have hfuel:fuel=ts.length:=by
   rw [<- hcnt,<- Nat.add_left_cancel_iff (n:=qs.length),hqlen,<- hsz];have e:listed.toList=List.replicate qs.length true++List.replicate (listed.size - qs.length) false:=by
    apply agb;intro i;rcases aer i qs.length with h1|h1
    ·have:=hall i h1;have hlt:i<listed.size:=by omega
     rw [aem (by simpa using h1)];simp [afb,hlt] at this;simp [hlt,h1,this]
    ·rw [aes (by simpa using h1)];have:=hnot i h1;rcases aer i listed.size with h2|h2
     ·simp [afb,h2] at this;simp only [List.length_replicate];rw [List.getElem?_replicate];rw [if_pos (by omega)];simp [h2,this]
     ·rw [afm (by simpa using h2),afm (by simp;omega)]
   rw [e];simp [List.count_append,List.count_replicate];omega
  rw [hfuel];exact VE hlow hahead hfix hchain hQ ts qs.length listed _ _ a w E (by omega) hqlen hdrop hsz (fun i hi=>by
   rcases aer i qs.length with h1|h1
   ·rw [hall i h1];simpa using h1
   ·rw [hnot i h1];simpa using h1) hcl hE hst hK
 intro fuel
 induction fuel with
 | zero =>
   intro listed a w E hsz hcnt hcl hE hnot hst;have hr:Region.ready .any ops listed=[]:=by
    refine List.eq_nil_iff_forall_not_mem.2 fun i hi=>?_
    obtain ⟨h1,o,ho,_⟩:=mem_ready.1 hi;have hi':i<ops.size:=(afl.1 ho).1;have:false∈listed.toList:=by
     have hlt:i<listed.size:=by omega
     simp [afb,hlt] at h1;rw [<- h1];simp
    rw [List.count_eq_zero] at hcnt;exact hcnt this
   exact finish listed a w E 0 hsz hcnt hcl hE hnot hst fun i hi=>allListed listed hsz hr i (by omega)
 | succ fuel ih =>
   intro listed a w E hsz hcnt hcl hE hnot hst;by_cases hall:∀ i,i<qs.length->listed.getD i false=true
   ·exact finish listed a w E _ hsz hcnt hcl hE hnot hst hall
   refine ⟨fun hr=>absurd (fun i hi=>allListed listed hsz hr i (by omega)) hall,fun i hi=>?_⟩;obtain ⟨hun,o,ho,hedges⟩:=mem_ready.1 hi;have hi':i<ops.size:=(afl.1 ho).1;have hun':listed.getD i false=false:=by rw [<- getD_eq listed i hsz hi'];exact hun
   obtain ⟨lo,hlo1,hlo2⟩:=hlo i hi';have hready:∀ o',ops[i]?=some o'->∀ e∈o'.after,Region.binds .any e=true->listed.getD e.on false=true:=fun o' ho'=>by
    rw [ho] at ho';cases ho';exact hedges
   have hset:∀ k,(listed.setIfInBounds i true).getD k false=if k=i then true else listed.getD k false:=fun k=>by
    by_cases e:k=i
    ·subst e;have:k<listed.size:=by omega
     simp [afb,this]
    ·rw [if_neg e];exact getD_set_ne false (Ne.symm e)
   have hcnt':(listed.setIfInBounds i true).toList.count false=fuel:=by
    have hlt:i<listed.size:=by omega
    have:=SR listed.toList i (by
     simp [afb,hlt] at hun';simp [hlt,hun'])
    rw [Array.toList_setIfInBounds];omega
   have hcl':OS ops (listed.setIfInBounds i true):=fun k o' hk ho' e he hb=>by
    rw [hset] at hk ⊢;by_cases e1:e.on=i
    ·rw [if_pos e1]
    ·rw [if_neg e1];by_cases e2:k=i
     ·subst e2;exact hready o' ho' e he hb
     ·rw [if_neg e2] at hk;exact hcl k o' hk ho' e he hb
   rcases aer i qs.length with hiq|hiq
   ·
    have hqi:qs[i]?=some lo:=by
     rw [hsplit,aem hiq] at hlo1;exact hlo1
    have hti:i<tr.length:=by omega
    have agree:∀ t∈lo.reads,ar (TL T qs tr 0 fun j=>decide (j<i)) t=ar (TL T qs tr 0 fun j=>listed.getD j false) t:=by
     intro t ht;by_cases hw:∃ (j:Nat) (p:ak),qs[j]?=some p/\p.dst=some t
     ·obtain ⟨j,p,hp,hd⟩:=hw;have hjq:j<qs.length:=(aeh.1 hp).1;rw [TY hD htr hp hd,TY hD htr hp hd];have hlj:los[j]?=some p:=by rw [hsplit,aem hjq];exact hp
      have:=ael.1 htied (lo,i) (by rw [agm];simpa using hlo1);have:=ael.1 this t ht;have:=ael.1 this (p,j) (by rw [agm];simpa using hlj);simp only [hd,beq_self_eq_true,af2,afQ,ae6,afw] at this;rcases this with h1|h1
      ·have e1:=TN hahead hfix _ _ (by omega) h1;have e2:=fJ hahead hfix hcl i j hi' hready h1;simp only [decide_eq_true_eq,if_pos e1,if_pos e2]
      ·have e1:=TN hahead hfix _ _ (by omega) h1;have e2:listed.getD j false=false:=by
        rcases hb:listed.getD j false with _|_
        ·rfl
        ·have:=fJ hahead hfix hcl j i (by omega) (fun o' ho'=>hcl j o' hb ho') h1;rw [hun'] at this;cases this
       simp only [decide_eq_true_eq,if_neg (show ¬ j<i by omega),e2,aez,if_false]
     ·have hno:∀ (j:Nat) (p:ak),qs[j]?=some p->p.dst≠some t:=fun j p hp hd=>hw ⟨j,p,hp,hd⟩
      rw [TZ hno,TZ hno]
    have hTnew:∀ (t:Nat) (v:AV),ar (TL T qs tr 0 fun j=>(listed.setIfInBounds i true).getD j false) t=some v->ar (cn lo.dst tr[i] (TL T qs tr 0 fun j=>listed.getD j false)) t=some v:=by
     intro t v hv;by_cases hw:∃ (j:Nat) (p:ak),qs[j]?=some p/\p.dst=some t
     ·obtain ⟨j,p,hp,hd⟩:=hw;rw [TY hD htr hp hd] at hv;by_cases e:j=i
      ·subst e;rw [hqi] at hp;cases hp;rw [hd,ND];rw [if_pos (by rw [hset,if_pos rfl]),aev hti] at hv;exact hv
      ·have hne:lo.dst≠some t:=fun e'=>e (H3 hD hp hqi hd e')
       rw [uu hne,TY hD htr hp hd];simp only [hset,if_neg e] at hv;exact hv
     ·have hno:∀ (j:Nat) (p:ak),qs[j]?=some p->p.dst≠some t:=fun j p hp hd=>hw ⟨j,p,hp,hd⟩
      rw [TZ hno] at hv;rw [uu (hno i lo hqi),TZ hno];exact hv
    have hnot':∀ k,qs.length<=k->(listed.setIfInBounds i true).getD k false=false:=fun k hk=>by
     rw [hset,if_neg (by omega)];exact hnot k hk
    have hpre:∀ j e,es[j]?=some e->listed.getD e false=decide (j<done es listed):=Ph es _ fun j j' e e' h1 h2 h3 h4=>by
     have hlt:e'<ops.size:=by have:=hes e' (aeQ h2);omega
     exact fJ hahead hfix hcl e' e hlt (fun o' ho'=>hcl e' o' h4 ho') (hch j j' e e' h1 h2 h3)
    have hdl:done es listed<=es.length:=List.countP_le_length;rcases hq i lo tr[i] hqi (aev hti) with ⟨m,g1,g2⟩|⟨g1,g2⟩
    ·have hm:done es listed=m:=by
      have h1:=hpre m i g1;rw [hun'] at h1;have h2:¬ m<done es listed:=by simpa using h1.symm
      rcases aer (done es listed) m with h3|h3
      ·obtain ⟨e,he⟩:∃ e,es[done es listed]?=some e:=⟨_,aev (by have:=(aeh.1 g1).1;omega)⟩;have h4:=hpre _ e he;rw [fJ hahead hfix hcl i e hi' hready (hch _ _ e i he g1 h3)] at h4;simp at h4
      ·omega
     have hm':done es (listed.setIfInBounds i true)=m+1:=by
      refine Pt es _ (m+1) (fun j e he=>?_) (by have:=(aeh.1 g1).1;omega);rw [hset];by_cases e1:e=i
      ·subst e1;rw [if_pos rfl];rcases agQ j m with h3|h3|h3
       ·simp;omega
       ·simp;omega
       ·have:=TN hahead hfix e e hi' (hch m j e e g1 he h3);omega
      ·rw [if_neg e1,hpre j e he,hm];have:j≠m:=fun e2=>by subst e2;rw [g1] at he;cases he;exact e1 rfl
       congr 1;simp only [eq_iff_iff];omega
     rw [hm] at hst;refine RK hlo2 hst (EQ.aops (EQ.congr agree g2)) fun E' T' L' a' w' hle ⟨e1,e2⟩ hst'=>ih _ a' w' E' (by simpa using hsz) hcnt' hcl' (hE.trans hle) hnot' ?_
     subst e1;subst e2;rw [hm'];exact hst'.weak hTnew rfl fun _ _ e=>.inr e
    ·have hL:done es (listed.setIfInBounds i true)=done es listed:=by
      unfold done;refine List.countP_congr fun e he=>?_
      rw [hset,if_neg (fun e1:e=i=>g1 (e1 ▸ he))]
     have hAQ:=g2 (done es listed) hdl (fun j e he hj=>by
      rcases hb:(tbl.getD e 0).testBit i with _|_
      ·rfl
      ·have h1:=hpre j e he;rw [decide_eq_true hj] at h1;have hlt:e<ops.size:=by have:=hes e (aeQ he);omega
       have:=fJ hahead hfix hcl e i hlt (fun o' ho'=>hcl e o' h1 ho') hb;rw [hun'] at this;cases this) (fun j e he hj=>by
      rcases hb:(tbl.getD i 0).testBit e with _|_
      ·rfl
      ·have h1:=hpre j e he;rw [fJ hahead hfix hcl i e hi' hready hb] at h1;have:=of_decide_eq_true h1.symm;omega)
     refine aas hlo2 hst (hAQ.congr agree) fun E' a' w' hle hst'=>ih _ a' w' E' (by simpa using hsz) hcnt' hcl' (hE.trans hle) hnot' ?_
     rw [hL];exact hst'.weak hTnew rfl fun _ _ e=>.inr e
   ·
    refine absurd (fun j hj=>?_) hall;have h1:=ael.1 hchain i (by simpa using hi');simp only [ae6,decide_eq_true_eq] at h1;rcases h1 with h2|h2
    ·omega
    ·have h3:=ael.1 h2 j (by simp;omega);exact fJ hahead hfix hcl i j hi' hready h3
end
inductive Kd where
 | pure
 | read (n f:Nat)
 | eff
 deriving Inhabited,DecidableEq
abbrev kM:=Nat×ak×Tm×AV
def Dz (P:Program) (L:List Blk):List kM->Prop
 | []=>True
 | (_,o,T,v)::h=>AQ P o T L v/\Dz P L h
def Ll:List kM->List kM
 | []=>[]
 | (0,_)::h=>Ll h
 | (1,_)::h=>Ll h
 | (n+2,y)::h=>(n+1,y)::Ll h
def V2 (f:Nat) (o:ak) (T:Tm) (v:AV) (H:List kM):List kM :=
 match f with
 | 0=>H
 | f+1=>(f+1,o,T,v)::H
def AG (P:Program) (K:Tm->List Blk->Prop):List (ak×Kd)->List (List Blk)->List kM->Tm->Prop
 | [],L::_,_,T=>K T L
 | (o,.pure)::r,L::Ls,H,T=>∃ v,AQ P o T L v/\AG P K r (L::Ls) H (cn o.dst v T)
 | (o,.read n f)::r,L::Ls,H,T=>∃ v,(∀ L'∈(L::Ls).take (n+1),AQ P o T L' v)/\AG P K r (L::Ls) (V2 f o T v H) (cn o.dst v T)
 | (o,.eff)::r,L::Ls,H,T=>∃ v L2,EQ P o T L v L2/\Dz P L2 H/\AG P K r (L2::L::Ls) (Ll H) (cn o.dst v T)
 | _,[],_,_=>False
def jt:List (ak×Kd)->Nat
 | []=>0
 | (_,.eff)::r=>jt r+1
 | _::r=>jt r
def mem (Ns:List (List Blk)) (m:Nat):List Blk:=Ns.reverse.getD m []
theorem uq {X Ls:List (List Blk)} {m:Nat} (h:m<Ls.length):mem (X++Ls) m=Ls.getD (Ls.length - 1 - m) []:=by
 simp only [mem,List.reverse_append,aew];rw [aem (by simpa using h),List.getElem?_reverse h]
theorem S9 {P:Program} {L:List Blk}:∀ {H:List kM},Dz P L H->∀ y∈H,AQ P y.2.1 y.2.2.1 L y.2.2.2
 | [],_,y,hy=>by cases hy
 | (f,o,T,v)::h,hr,y,hy=>by
   rcases aex.1 hy with rfl|hy
   ·exact hr.1
   ·exact S9 hr.2 y hy
theorem NO:∀ {H:List kM} {y:kM},y∈H->1<y.1->(y.1 - 1,y.2)∈Ll H
 | [],y,hy,_=>by cases hy
 | (0,z)::h,y,hy,h1=>by
   rcases aex.1 hy with rfl|hy
   ·simp at h1
   ·show (y.1 - 1,y.2)∈Ll h
    exact NO hy h1
 | (1,z)::h,y,hy,h1=>by
   rcases aex.1 hy with rfl|hy
   ·simp at h1
   ·show (y.1 - 1,y.2)∈Ll h
    exact NO hy h1
 | (n+2,z)::h,y,hy,h1=>by
   rcases aex.1 hy with rfl|hy
   ·simp [Ll]
   ·exact af0 _ (NO hy h1)
def Xd (P:Program) (o:ak) (T:Tm) (Ns:List (List Blk)) (v:AV) (c:Nat):Kd->Prop
 | .pure=>AQ P o T (mem Ns c) v
 | .read n f=>∀ m,c - n<=m->m<=c+f->m<Ns.length->AQ P o T (mem Ns m) v
 | .eff=>EQ P o T (mem Ns c) v (mem Ns (c+1))
theorem aaR {P:Program} {K:Tm->List Blk->Prop}:∀ (qk:List (ak×Kd)) (Ls:List (List Blk)) (H:List kM) (T:Tm) (k:Nat),AG P K qk Ls H T ->
  ∃ (tr:List AV) (X:List (List Blk)),tr.length=qk.length/\X.length=jt qk /\
   (∀ y∈H,∀ m,Ls.length<=m->m<Ls.length+y.1->m<(X++Ls).length->AQ P y.2.1 y.2.2.1 (mem (X++Ls) m) y.2.2.2) /\
   (∀ i o kd v,qk[i]?=some (o,kd)->tr[i]?=some v->Xd P o (TL T (qk.map (·.1)) tr k fun j=>decide (j<k+i)) (X++Ls) v (Ls.length - 1+jt (qk.take i)) kd) /\
   K (TL T (qk.map (·.1)) tr k fun _=>true) (mem (X++Ls) ((X++Ls).length - 1)):=by
 intro qk
 induction qk with
 | nil =>
   intro Ls H T k h;cases Ls with
   | nil=>exact h.elim
   | cons L Ls =>
     refine ⟨[],[],rfl,rfl,fun y _ m h1 _ h3=>?_,fun i o kd v hi=>by simp at hi,?_⟩
     ·simp only [aeR] at h3;omega
     ·rw [aeR,<- aeR (L::Ls),uq (by simp)];have h':K T L:=h;simpa [TL] using h'
 | cons q qk ih =>
   intro Ls H T k h;cases Ls with
   | nil=>rcases q with ⟨o,_|_|_⟩<;>exact h.elim
   | cons L Ls =>
     obtain ⟨o,kd⟩:=q;have tl0:∀ (v:AV) (tr:List AV),TL T (((o,kd)::qk).map (·.1)) (v::tr) k (fun j=>decide (j<k+0))=T:=fun v tr=>by
      have e:TL T (((o,kd)::qk).map (·.1)) (v::tr) k (fun j=>decide (j<k+0))=TL T (((o,kd)::qk).map (·.1)) (v::tr) k (fun _=>false):=RP fun j _=>by simp
      rw [e];exact Vq _ _ _ _
     have tls:∀ (v:AV) (tr:List AV) (i:Nat),TL T (((o,kd)::qk).map (·.1)) (v::tr) k (fun j=>decide (j<k+(i+1)))=TL (cn o.dst v T) (qk.map (·.1)) tr (k+1) (fun j=>decide (j<k+1+i)):=fun v tr i=>by
      simp only [aeG,TL];rw [if_pos (by simp)];exact RP fun j _=>by congr 1;simp;omega
     have tlt:∀ (v:AV) (tr:List AV),TL T (((o,kd)::qk).map (·.1)) (v::tr) k (fun _=>true)=TL (cn o.dst v T) (qk.map (·.1)) tr (k+1) (fun _=>true):=fun v tr=>by
      simp only [aeG,TL,if_true]
     cases kd with
     | pure =>
       obtain ⟨v,h1,h2⟩:=h;obtain ⟨tr,X,g1,g2,g3,g4,g5⟩:=ih _ _ _ (k+1) h2;refine ⟨v::tr,X,by simp [g1],g2,g3,fun i p kd u hi hu=>?_,by rw [tlt];exact g5⟩;cases i with
       | zero =>
         simp only [afa,aei,aeq] at hi hu;obtain ⟨rfl,rfl⟩:=hi;subst hu;rw [tl0];simp only [afI,jt,afd,Xd];rw [uq (by simp)];simpa using h1
       | succ i =>
         rw [tls];exact g4 i p kd u (by simpa using hi) (by simpa using hu)
     | read n f =>
       obtain ⟨v,h1,h2⟩:=h;obtain ⟨tr,X,g1,g2,g3,g4,g5⟩:=ih _ _ _ (k+1) h2;have hk:∀ y∈H,y∈V2 f o T v H:=fun y hy=>by
        unfold V2;split
        ·exact hy
        ·exact af0 _ hy
       refine ⟨v::tr,X,by simp [g1],g2,fun y hy=>g3 y (hk y hy),fun i p kd u hi hu=>?_,by rw [tlt];exact g5⟩;cases i with
       | zero =>
         simp only [afa,aei,aeq] at hi hu;obtain ⟨rfl,rfl⟩:=hi;subst hu;rw [tl0];simp only [afI,jt,afd,Xd];intro m m1 m2 m3;rcases aer m (L::Ls).length with m4|m4
         ·rw [uq m4];refine h1 _ ?_;have m5:(L::Ls).length - 1 - m<(L::Ls).length:=by omega
          rw [aew,aev m5,aeP];rw [List.mem_take_iff_getElem];refine ⟨(L::Ls).length - 1 - m,?_,rfl⟩;simp only [aet] at m1 m4 m5 ⊢;omega
         ·cases f with
          | zero=>simp only [aet] at m2 m4;omega
          | succ f=>exact g3 (f+1,o,T,v) (by simp [V2]) m m4 (by simp only [aet] at m2 m4 ⊢;omega) m3
       | succ i =>
         rw [tls];exact g4 i p kd u (by simpa using hi) (by simpa using hu)
     | eff =>
       obtain ⟨v,L2,h1,hr,h2⟩:=h;obtain ⟨tr,X,g1,g2,g3,g4,g5⟩:=ih _ _ _ (k+1) h2;have e:(X++[L2])++(L::Ls)=X++(L2::L::Ls):=by simp
       refine ⟨v::tr,X++[L2],by simp [g1],by simp [jt,g2],fun y hy m m1 m2 m3=>?_,fun i p kd u hi hu=>?_,by rw [tlt,e];exact g5⟩
       ·rw [e] at m3 ⊢;rcases Nat.eq_or_lt_of_le m1 with m4|m4
        ·subst m4;rw [uq (by simp)];have:=S9 hr y hy;simpa using this
        ·exact g3 _ (NO hy (by omega)) m (by simp only [aet] at m4 ⊢;omega) (by simp only [aet] at m2 ⊢;omega) m3
       rw [e];cases i with
       | zero =>
         simp only [afa,aei,aeq] at hi hu;obtain ⟨rfl,rfl⟩:=hi;subst hu;rw [tl0];simp only [afI,jt,afd,Xd];rw [uq (by simp only [aet];omega),uq (by simp only [aet];omega)];simpa using h1
       | succ i =>
         rw [tls];have:=g4 i p kd u (by simpa using hi) (by simpa using hu);have e2:(L2::L::Ls).length - 1+jt (qk.take i)=(L::Ls).length - 1+jt (((o,Kd.eff)::qk).take (i+1)):=by
          simp only [aet,afx,jt];omega
         rw [e2] at this;exact this
def LOp.pureB:LOp->Bool
 | .mv _ | .pick .. | .build .. | .bin .. | .un .. | .faddr .. | .extract .. | .mkfn .. | .conv .. | .sconv .. | .eqk .. | .eq2 ..=>true
 | _=>false
theorem abo {P:Program} {o:ak} {T:Tm} {L L':List Blk} {v:AV} (hp:o.op.pureB=true) (h:AQ P o T L v):AQ P o T L' v:=by
 have key:∀ {c:Prop} {av:AV} {L2:List Blk},aj T L o.op=some (c,av,L2)->aj T L' o.op=some (c,av,L'):=fun {c av L2} he=>by
  have e:aj T L' o.op=(aj T L o.op).map fun x=>(x.1,x.2.1,L'):=by
   obtain ⟨d,op,g⟩:=o;cases op<;>simp only [LOp.pureB,aez] at hp<;>simp only [aj]<;>(repeat' split)<;>simp [Option.map_map,Function.comp_def]
  rw [e,he];rfl
 have hv:AQv P o T L v->AQv P o T L' v:=fun hv=>by
  unfold AQv at hv ⊢;obtain ⟨d,op,g⟩:=o;cases op<;>simp only [LOp.pureB,aez] at hp<;>simp only at hv ⊢<;>(
   split at hv
   ·rename_i c av L2 he
    rw [key he];exact ⟨hv.1,hv.2.1,rfl⟩
   ·exact hv.elim)
 unfold AQ at h ⊢;split at h
 ·exact hv h
 ·split at h
  ·split at h
   ·rename_i e;rw [if_pos e];exact hv h
   ·rename_i e;rw [if_neg e];exact h
  ·exact h
  ·exact h.elim
def da:List (ak×Kd)->Nat->List Nat
 | [],_=>[]
 | (_,.eff)::r,k=>k::da r (k+1)
 | _::r,k=>da r (k+1)
theorem jG:∀ (qk:List (ak×Kd)) (k:Nat),(da qk k).length=jt qk
 | [],_=>rfl
 | (_,.pure)::r,k=>jG r (k+1)
 | (_,.read _ _)::r,k=>jG r (k+1)
 | (_,.eff)::r,k=>by simp [da,jt,jG r (k+1)]
theorem Re:∀ (qk:List (ak×Kd)) (k i:Nat) (o:ak),qk[i]?=some (o,.eff)->(da qk k)[jt (qk.take i)]?=some (k+i)
 | [],_,i,o,h=>by simp at h
 | (p,kd)::r,k,0,o,h=>by
   simp only [afa,aei,aeq] at h;obtain ⟨rfl,rfl⟩:=h;simp [da,jt]
 | (p,kd)::r,k,i+1,o,h=>by
   have ih:=Re r (k+1) i o (by simpa using h);rw [show k+1+i=k+(i+1) by omega] at ih;cases kd<;>simpa [da,jt] using ih
theorem Rc:∀ (qk:List (ak×Kd)) (k e:Nat),e∈da qk k->∃ i o,e=k+i/\qk[i]?=some (o,.eff)
 | [],_,e,h=>by simp [da] at h
 | (p,kd)::r,k,e,h=>by
   have go:e∈da r (k+1)->∃ i o,e=k+i/\((p,kd)::r)[i]?=some (o,.eff):=fun h'=>by
    obtain ⟨i,o,rfl,h2⟩:=Rc r (k+1) e h';exact ⟨i+1,o,by omega,by simpa using h2⟩
   cases kd with
   | pure=>exact go h
   | read _ _=>exact go h
   | eff =>
     rcases aex.1 h with rfl|h
     ·exact ⟨0,p,rfl,rfl⟩
     ·exact go h
def Oj (tbl:List Nat) (qk:List (ak×Kd)):Bool :=
 let es:=da qk 0
 ((List.range es.length).all fun j'=>(List.range j').all fun j=>(tbl.getD (es.getD j' 0) 0).testBit (es.getD j 0)) &&
 qk.zipIdx.all fun ((o,kd),i)=>match kd with
  | .pure=>o.op.pureB
  | .eff=>true
  | .read n f=>let c:=jt (qk.take i)
    (List.range es.length).all fun j=>(!decide (j<c - n) || (tbl.getD i 0).testBit (es.getD j 0)) && (!decide (c+f<=j) || (tbl.getD (es.getD j 0) 0).testBit i)
section
variable {P:Program} {r:Option Nat} {w0:World} {S0:SB} {N:Nat} {own:Nat->Nat} {ops:Array Oper} {L:List Blk}
theorem Vn {los:List ak} {n:Nat} (hlow:bO P N own ops (List.range ops.size)=some los) (hok:HI ops los n=true) {qk:List (ak×Kd)} {ts:List ak} (hsplit:los=qk.map (·.1)++ts) (hn:qk.length=n)
  (hk:Oj (kO ops.toList []) qk=true) {K:Tm->List Blk->Prop} {T:Tm} {Q:Exit->Act->World->Prop} {E0:Env} (h:AG P (jC P K ts) qk [L] [] T)
  (hQ:∀ E' T' L' a' w',E0.le E'->K T' L'->St w0 S0 N E' T' L' a' w'->Q .normal a' w') (a:Act) (w:World) (E:Env) (hE:E0.le E) (hst:St w0 S0 N E T L a w) :
  wpAnyIn (fL r) 0 P .any ops Q ops.size (Array.replicate ops.size false) a w:=by
 obtain ⟨tr,X,g1,g2,-,g4,g5⟩:=aaR qk [L] [] T 0 h;have rep0:∀ i,(Array.replicate ops.size false).getD i false=false:=fun i=>by
  rw [afb,Array.getElem?_replicate];split<;>rfl
 simp only [Oj,aek] at hk;obtain ⟨hk1,hk2⟩:=hk;have hesl:=jG qk 0;have hlt:∀ e∈da qk 0,∃ o,qk[e]?=some (o,.eff):=fun e he=>by
  obtain ⟨i,o,rfl,h2⟩:=Rc qk 0 e he;exact ⟨o,by simpa using h2⟩
 have hlen:(X++[L]).length=jt qk+1:=by simp [g2]
 refine Wx (T:=T) (K:=K) (qs:=qk.map (·.1)) (ts:=ts) (tr:=tr) (es:=da qk 0) (Ms:=mem (X++[L])) hlow hok hsplit (by simpa using hn) (fun e he=>?_) (fun j j' e e' h1 h2 h3=>?_) (by simpa using g1) (fun i o v ho hv=>?_) ?_ hQ ops.size _ a w E (by simp) (by simp [List.count_replicate]) (fun i o hi=>by rw [rep0] at hi;cases hi) hE (fun i _=>rep0 i) ?_
 ·obtain ⟨o,ho⟩:=hlt e he;simpa using (aeh.1 ho).1
 ·have l2:j'<(da qk 0).length:=(aeh.1 h2).1;have:=ael.1 (ael.1 hk1 j' (by simpa using l2)) j (by simpa using h3);have q1:(da qk 0).getD j 0=e:=by rw [aew,h1];rfl
  have q2:(da qk 0).getD j' 0=e':=by rw [aew,h2];rfl
  rw [q1,q2] at this;exact this
 ·rw [afr,aeI] at ho;obtain ⟨⟨o',kd⟩,ho,rfl⟩:=ho;have hs:=g4 i o' kd v ho hv;simp only [agR,afn,afJ] at hs;have hkk:=ael.1 hk2 ((o',kd),i) (by rw [agm];simpa using ho);have notin:kd ≠ .eff->i ∉ da qk 0:=fun hne he=>by
   obtain ⟨o2,h2⟩:=hlt i he;rw [ho] at h2;cases h2;exact hne rfl
  cases kd with
  | eff =>
    refine .inl ⟨jt (qk.take i),?_,hs⟩;simpa using Re qk 0 i o' ho
  | pure=>exact .inr ⟨notin (by simp),fun m _ _ _=>abo (by simpa using hkk) hs⟩
  | read n f =>
    refine .inr ⟨notin (by simp),fun m hm p1 p2=>?_⟩;simp only at hkk;have chk:=fun j (hj:j<(da qk 0).length)=>ael.1 hkk j (by simpa using hj)
    have cle:jt (qk.take i)<=(da qk 0).length:=by
     have:∀ (l:List (ak×Kd)) (i:Nat),jt (l.take i)<=jt l:=by
      intro l
      induction l with
      | nil=>intro i;simp
      | cons q l ih =>
        intro i;cases i with
        | zero=>simp [jt]
        | succ i=>obtain ⟨o,_|_|_⟩:=q<;>simp only [afx,jt]<;>have:=ih i<;>omega
     rw [hesl];exact this qk i
    refine hs m ?_ ?_ (by rw [hlen];omega)
    ·rcases aer m (jt (qk.take i) - n) with hlt2|hge
     ·have hme:m<(da qk 0).length:=by omega
      have:=chk m hme;simp only [aek,ae6,ae2,decide_eq_false_iff_not] at this;have e1:=p2 m _ (aev hme) (aeg _);rcases this.1 with c|c
      ·exact absurd hlt2 c
      ·rw [aew (l:=da qk 0),aev hme] at c;simp only [aeP] at c;rw [e1] at c;cases c
     ·exact hge
    ·rcases aer (jt (qk.take i)+f) m with hlt2|hge
     ·have hme:jt (qk.take i)+f<(da qk 0).length:=by omega
      have:=chk _ hme;simp only [aek,ae6,ae2,decide_eq_false_iff_not] at this;have e1:=p1 _ _ (aev hme) hlt2;rcases this.2 with c|c
      ·exact absurd (aeg _) c
      ·rw [aew (l:=da qk 0),aev hme] at c;simp only [aeP] at c;rw [e1] at c;cases c
     ·exact hge
 ·rw [hlen] at g5;rw [hesl];simpa using g5
 ·have e:TL T (qk.map (·.1)) tr 0 (fun j=>(Array.replicate ops.size false).getD j false)=T:=by
   refine Eq.trans (RP (g:=fun _=>false) fun j _=>rep0 _) (Vq _ tr T 0)
  have e2:done (da qk 0) (Array.replicate ops.size false)=0:=ag5.2 fun x _=>by rw [rep0];simp
  rw [e,e2,uq (by simp)];simpa using hst
end
inductive SOp where
 | op (o:ak)
 | grp (g:Option (Nat×Bool)) (t:Nat) (b:Bool) (body:List SOp) (d:Nat) (x:Opd)
 deriving Inhabited
def dJ (g:Option (Nat×Bool)) (t:Nat) (b:Bool) (d:Nat) (x:Opd):ak :=
 ⟨some d,.pick (.tmp t) (if b then x else .av (.bool true)) (if b then .av (.bool false) else x),g⟩
mutual
def SOp.flat:SOp->List ak
 | .op o=>[o]
 | .grp g t b body d x=>SOp.flatL body++[dJ g t b d x]
def SOp.flatL:List SOp->List ak
 | []=>[]
 | s::r=>SOp.flat s++SOp.flatL r
end
def br (l:List ak):List Nat:=l.filterMap (·.dst)
def gds:List SOp->List Nat
 | []=>[]
 | .op _::r=>gds r
 | .grp _ _ _ body _ _::r=>br (SOp.flatL body)++gds r
def cw:SOp->List Nat
 | .op o=>o.dst.toList
 | .grp _ _ _ _ d _=>[d]
mutual
def okO (g:Nat×Bool) (seen:List Nat):SOp->Bool
 | .op o=>decide (o.guard=some g)
 | .grp g' t b body d x=>decide (g'=some g) && seen.contains t && !(br (SOp.flatL body)).contains t && !(br (SOp.flatL body)).contains g.1 && okB (t,b) [] body
def okB (g:Nat×Bool) (seen:List Nat):List SOp->Bool
 | []=>true
 | s::r=>okO g seen s && (cw s).all (fun d => !(gds r).contains d && d != g.1) && okB g (cw s++seen) r
end
def okS:List SOp->Bool
 | []=>true
 | .op o::r=>o.dst.toList.all (fun d => !(gds r).contains d) && okS r
 | .grp g t b body d x::r=>decide (g=none) && !(br (SOp.flatL body)).contains t && okB (t,b) [] body && !(gds r).contains d && okS r
def mrg (b p q:Bool):Bool:=if b then p && q else p || q
def aaL (P:Program) (f:FuncId) (args:List AV) (L:List Blk) (k:AV->Prop):Prop:=∃ v,ae P f args L (fun av L'=>av=v/\L'=L)/\k v
theorem aS {P:Program} {f:FuncId} {args:List AV} {L:List Blk} {k:AV->Prop} {v:AV} (h:ae P f args L (fun av L'=>av=v/\L'=L)) (hk:k v):aaL P f args L k:=⟨v,h,hk⟩
def IsB:Option AV->Bool->Prop:=fun o q=>o=some (.bool q)
theorem a7 {q:Bool}:IsB (some (.bool q)) q:=rfl
def IsX (x:Opd) (q:Bool) (T:Tm):Prop:=IsB (evX T x) q
def aaD (k:Tm->Prop) (d:Option Nat) (T:Tm) (v:AV):Prop:=k (cn d v T)
def ad4 (P:Program) (f:FuncId) (L:List Blk) (k:AV->Prop):Option (List AV)->Prop
 | some args=>aaL P f args L k
 | none=>False
def Xg (P:Program) (L:List Blk) (k:AV->Prop):Option AV->Option (List AV)->Prop
 | some (.func g caps),some args=>aaL P g (args++caps) L k
 | _,_=>False
def ad0 (L:List Blk) (k:AV->Prop):Option (Prop×AV×List Blk)->Prop
 | some (c,av,L')=>c/\L'=L/\k av
 | none=>False
def GOp (P:Program) (L:List Blk) (o:ak) (k:Tm->Prop) (T:Tm):Prop :=
 match o.op with
 | .call f xs=>ad4 P f L (aaD k o.dst T) (gw T xs)
 | .callv f xs=>Xg P L (aaD k o.dst T) (evX T f) (gw T xs)
 | lo=>ad0 L (aaD k o.dst T) (aj T L lo)
mutual
def GL (P:Program) (L:List Blk):List SOp->(Tm->Prop)->Tm->Prop
 | [],k,T=>k T
 | s::r,k,T=>GO P L s (GL P L r k) T
def GO (P:Program) (L:List Blk):SOp->(Tm->Prop)->Tm->Prop
 | .op o,k,T=>GOp P L o k T
 | .grp _ t b body d x,k,T=>match ar T t with
   | some (.bool p)=>∃ q,(p=b->GL P L body (IsX x q) T)/\k ((d,.bool (mrg b p q))::T)
   | _=>False
end
def GQ (P:Program) (L:List Blk) (b:Bool) (body:List SOp) (d:Nat) (x:Opd) (k:Tm->Prop) (T:Tm) (p:Bool):Prop :=
 ∃ q,(p=b->GL P L body (IsX x q) T)/\k ((d,.bool (mrg b p q))::T)
def GG (P:Program) (L:List Blk) (b:Bool) (body:List SOp) (d:Nat) (x:Opd) (k:Tm->Prop) (T:Tm):Option AV->Prop
 | some (.bool p)=>GQ P L b body d x k T p
 | _=>False
theorem adv {P:Program} {L:List Blk} {k:Tm->Prop} {T:Tm}:GL P L [] k T=k T:=by rw [GL]
theorem ad3 {P:Program} {L:List Blk} {o:ak} {r:List SOp} {k:Tm->Prop} {T:Tm}:GL P L (.op o::r) k T=GOp P L o (GL P L r k) T:=by rw [GL,GO]
theorem adw {P:Program} {L:List Blk} {g:Option (Nat×Bool)} {t d:Nat} {b:Bool} {body r:List SOp} {x:Opd} {k:Tm->Prop} {T:Tm}:GL P L (.grp g t b body d x::r) k T=GG P L b body d x (GL P L r k) T (ar T t):=by
 rw [GL,GO];rfl
theorem ab7 {P:Program} {L:List Blk} {d:Nat} {b p:Bool} {body:List SOp} {x:Opd} {k:Tm->Prop} {T:Tm}:GG P L b body d x k T (some (.bool p))=GQ P L b body d x k T p:=rfl
theorem ad2 {P:Program} {L:List Blk} {d:Nat} {body:List SOp} {x:Opd} {k:Tm->Prop} {T:Tm}:GQ P L true body d x k T false=k ((d,.bool false)::T):=by simp [GQ,mrg]
theorem ad1 {P:Program} {L:List Blk} {d:Nat} {body:List SOp} {x:Opd} {k:Tm->Prop} {T:Tm}:GQ P L false body d x k T true=k ((d,.bool true)::T):=by simp [GQ,mrg]
def SL (P:Program):List SOp->(Tm->List Blk->Prop)->Tm->List Blk->Prop
 | [],K,T,L=>K T L
 | .op o::r,K,T,L=>match o.guard with
   | none=>AOp P o (SL P r K) T L
   | some (t,b)=>Grd P o (SL P r K) b T L (ar T t)
 | .grp _ t b body d x::r,K,T,L=>GG P L b body d x (fun T'=>SL P r K T' L) T (ar T t)
def SK (P:Program) (r:List SOp) (K:Tm->List Blk->Prop) (L:List Blk) (T:Tm):Prop:=SL P r K T L
theorem adX {P:Program} {r:List SOp} {K:Tm->List Blk->Prop} {L:List Blk} {T:Tm}:SK P r K L T=SL P r K T L:=rfl
theorem adr {P:Program} {K:Tm->List Blk->Prop} {L:List Blk} {T:Tm}:SL P [] K T L=K T L:=rfl
theorem adW {P:Program} {d:Option Nat} {op:LOp} {r:List SOp} {K:Tm->List Blk->Prop} {L:List Blk} {T:Tm}:SL P (.op ⟨d,op,none⟩::r) K T L=AOp P ⟨d,op,none⟩ (SL P r K) T L:=rfl
theorem adq {P:Program} {d:Option Nat} {op:LOp} {t:Nat} {b:Bool} {r:List SOp} {K:Tm->List Blk->Prop} {L:List Blk} {T:Tm}:SL P (.op ⟨d,op,some (t,b)⟩::r) K T L=Grd P ⟨d,op,some (t,b)⟩ (SL P r K) b T L (ar T t):=rfl
theorem ads {P:Program} {g:Option (Nat×Bool)} {t d:Nat} {b:Bool} {body r:List SOp} {x:Opd} {K:Tm->List Blk->Prop} {L:List Blk} {T:Tm}:SL P (.grp g t b body d x::r) K T L=GG P L b body d x (SK P r K L) T (ar T t):=rfl
def sel:List Bool->Tm->Tm
 | [],T=>T
 | true::m,x::T=>x::sel m T
 | false::m,_::T=>sel m T
 | _::_,[]=>[]
theorem WP {T:Tm}:sel [] T=T:=by cases T<;>rfl
theorem ace {m:List Bool} {x:Nat×AV} {T:Tm}:sel (true::m) (x::T)=x::sel m T:=rfl
theorem acf {m:List Bool} {x:Nat×AV} {T:Tm}:sel (false::m) (x::T)=sel m T:=rfl
section
variable {P:Program} {ro:Option Nat} {w0:World} {S0:SB} {N:Nat}
def Fr (ds:List Nat) (T:Tm):Prop:=∀ d∈ds,ar T d=none
theorem kD {d:Option Nat} {v:AV} {T:Tm} {t:Nat} (h:d≠some t):ar (cn d v T) t=ar T t:=by
 cases d with
 | none=>rfl
 | some d=>simp only [cn,ar];rw [if_neg (fun e=>h (by rw [e]))]
theorem gn {own:Nat->Nat} {ops:Array Oper}:∀ {l m:List ak} {is:List Nat},bO P N own ops is=some (l++m)->∃ js ks,is=js++ks/\bO P N own ops js=some l/\bO P N own ops ks=some m
 | [],m,is,h=>⟨[],is,rfl,rfl,h⟩
 | o::l,m,is,h=>by
   cases is with
   | nil=>simp [bO] at h
   | cons i is =>
     simp only [bO] at h;split at h<;>try cases h
     rename_i o' m' h1 h2
     obtain ⟨js,ks,rfl,h3,h4⟩:=gn (l:=l) (m:=m) h2;refine ⟨i::js,ks,rfl,?_,h4⟩;simp only [bO,h1,h3]
theorem ju {own:Nat->Nat} {ops:Array Oper} {o:ak} {is:List Nat} (h:bO P N own ops is=some [o]):∃ i,is=[i]/\jF P N own ops i=some o:=by
 cases is with
 | nil=>simp [bO] at h
 | cons i is =>
   simp only [bO] at h;split at h<;>try cases h
   rename_i o' m' h1 h2
   cases is with
   | nil=>exact ⟨i,rfl,h1⟩
   | cons j is =>
     simp only [bO] at h2;split at h2<;>cases h2
theorem P7 {own:Nat->Nat} {ops:Array Oper} {K:Tm->List Blk->Prop} {Q:Exit->Act->World->Prop} {i:Nat} {lo:ak} {rest:List Nat} (hl:jF P N own ops i=some lo)
  {T:Tm} {L:List Blk} {E:Env} {a:Act} {w:World} (hst:St w0 S0 N E T L a w) (hg:lo.guard=none\/∃ t b,lo.guard=some (t,b)/\ar T t=some (.bool b))
  (h:AOp P lo K T L) (hK:∀ E' T' L' a' w',E.le E'->K T' L'->St w0 S0 N E' T' L' a' w'->wpOpsIn (fL ro) 0 P ops Q rest a' w'):wpOpsIn (fL ro) 0 P ops Q (i::rest) a w:=by
 obtain ⟨o,ho,hop,hdst,hd,hg'⟩:=gu hl;obtain ⟨ld,lop,lg⟩:=lo;simp only at hop hdst hg' hg;subst hdst;simp only [wpOpsIn,ho];have hw:Region.wanted o (yielded ops a.tmps)=true:=by
  rcases hg' with ⟨g1,g2⟩|⟨j,b,t,g1,g2,g3,g4⟩
  ·simp [Region.wanted,g1]
  ·subst g4;rcases hg with hg|⟨t',b',e,hx⟩
   ·cases hg
   ·cases e;have hy:=ii (E:=E) (T:=T) (a:=a) (ops:=ops) hst.2.1 g2 (by rw [hst.2.2.1];exact g3);simp [Region.wanted,g1,hy.1 b hx]
 rw [if_pos hw];exact Io hop hd hst h hK
theorem QN {own:Nat->Nat} {ops:Array Oper} {Q:Exit->Act->World->Prop} {i:Nat} {lo:ak} {rest:List Nat} (hl:jF P N own ops i=some lo)
  {T:Tm} {L:List Blk} {E:Env} {a:Act} {w:World} (hst:St w0 S0 N E T L a w) {t:Nat} {b:Bool} (hg:lo.guard=some (t,b)) (hx:ar T t=some (.bool (!b))\/ar T t=some (.tup []))
  (hK:∀ a',St w0 S0 N E (cn lo.dst (.tup []) T) L a' w->wpOpsIn (fL ro) 0 P ops Q rest a' w):wpOpsIn (fL ro) 0 P ops Q (i::rest) a w:=by
 obtain ⟨o,ho,hop,hdst,hd,hg'⟩:=gu hl;obtain ⟨ld,lop,lg⟩:=lo;simp only at hop hdst hg' hg hK;subst hdst;simp only [wpOpsIn,ho];have hw:Region.wanted o (yielded ops a.tmps)=false:=by
  rcases hg' with ⟨g1,g2⟩|⟨j,b',t',g1,g2,g3,g4⟩
  ·rw [g2] at hg;cases hg
  ·rw [g4] at hg;cases hg;have hy:=ii (E:=E) (T:=T) (a:=a) (ops:=ops) hst.2.1 g2 (by rw [hst.2.2.1];exact g3);rcases hx with hx|hx
   ·simp [Region.wanted,g1,hy.1 _ hx]
   ·simp [Region.wanted,g1,hy.2 hx]
 rw [if_neg (by simp [hw])];exact ⟨fun _ _=>trivial,hK _ (LT hst hd)⟩
def Ext (ds:List Nat) (T T':Tm):Prop:=∀ t v,t ∉ ds->ar T t=some v->ar T' t=some v
mutual
theorem acv {own:Nat->Nat} {ops:Array Oper} {Q:Exit->Act->World->Prop} {L:List Blk} {E:Env} {w:World} (s:SOp) {g:Nat×Bool} {seen:List Nat} {is rest:List Nat} {T:Tm} {a:Act} (hok:okO g seen s=true) (hl:bO P N own ops is=some s.flat)
  (hst:St w0 S0 N E T L a w) (hx:ar T g.1=some (.bool (!g.2))\/ar T g.1=some (.tup [])) (hseen:∀ d∈seen,ar T d=some (.tup []))
  (hK:∀ T' a',Ext (br s.flat) T T'->(∀ d,ar T d=some (.tup [])->ar T' d=some (.tup []))->(∀ d∈cw s,ar T' d=some (.tup []))->St w0 S0 N E T' L a' w->wpOpsIn (fL ro) 0 P ops Q rest a' w):wpOpsIn (fL ro) 0 P ops Q (is++rest) a w:=by
 have tup:∀ (d':Option Nat) (T:Tm) (d:Nat),ar T d=some (.tup [])->ar (cn d' (.tup []) T) d=some (.tup []):=fun d' T d h=>by
  cases d' with
  | none=>exact h
  | some d' =>
    simp only [cn,ar];split
    ·rfl
    ·exact h
 cases s with
 | op o =>
   simp only [SOp.flat] at hl hK;obtain ⟨i,rfl,h1⟩:=ju hl;simp only [okO,decide_eq_true_eq] at hok;refine QN h1 hst (t:=g.1) (b:=g.2) hok hx fun a' ha'=>hK _ a' (fun t v ht hv=>?_) (tup _ _) (fun d hd=>?_) ha'
   ·rw [kD (fun e=>ht (by simp [br,e]))];exact hv
   ·simp only [cw,agS] at hd;rw [hd];simp [cn,ar]
 | grp g' t b body d x =>
   simp only [okO,aek,decide_eq_true_eq,afw,ae2,afj,decide_eq_false_iff_not] at hok;obtain ⟨⟨⟨⟨hg',ht⟩,htb⟩,hgb⟩,hb⟩:=hok;simp only [SOp.flat] at hl hK;obtain ⟨js,ks,rfl,h1,h2⟩:=gn hl;obtain ⟨i,rfl,h3⟩:=ju h2;rw [aeu];refine P2 body hb h1 hst (.inr (hseen t (by simpa using ht))) (by simp) fun T' a' hext htup hst'=>?_
   refine QN h3 hst' (t:=g.1) (b:=g.2) (by simp [dJ,hg']) ?_ fun a'' hst''=>hK _ a'' (fun t v ht hv=>?_) (fun d hd=>tup _ _ _ (htup d hd)) (fun d hd=>?_) hst''
   ·exact hx.imp (fun h=>hext _ _ hgb h) (fun h=>htup _ h)
   ·rw [kD (fun e=>ht (by simp only [dJ] at e;simp [br,dJ,e]))];exact hext t v (fun hm=>ht (by simp only [br,afR,aeo];exact .inl hm)) hv
   ·simp only [cw,aeO] at hd;subst hd;simp [dJ,cn,ar]
theorem P2 {own:Nat->Nat} {ops:Array Oper} {Q:Exit->Act->World->Prop} {L:List Blk} {E:Env} {w:World} (l:List SOp) {g:Nat×Bool} {seen:List Nat} {is rest:List Nat} {T:Tm} {a:Act} (hok:okB g seen l=true) (hl:bO P N own ops is=some (SOp.flatL l))
  (hst:St w0 S0 N E T L a w) (hx:ar T g.1=some (.bool (!g.2))\/ar T g.1=some (.tup [])) (hseen:∀ d∈seen,ar T d=some (.tup []))
  (hK:∀ T' a',Ext (br (SOp.flatL l)) T T'->(∀ d,ar T d=some (.tup [])->ar T' d=some (.tup []))->St w0 S0 N E T' L a' w->wpOpsIn (fL ro) 0 P ops Q rest a' w):wpOpsIn (fL ro) 0 P ops Q (is++rest) a w:=by
 cases l with
 | nil =>
   simp only [SOp.flatL] at hl hK;have:is=[]:=by
    cases is with
    | nil=>rfl
    | cons i is =>
      simp only [bO] at hl;split at hl<;>cases hl
   subst this;exact hK T a (fun _ _ _ h=>h) (fun _ h=>h) hst
 | cons s r =>
   simp only [okB,aek,ael,ae2,bne_iff_ne] at hok;obtain ⟨⟨h1,h2⟩,h3⟩:=hok;simp only [SOp.flatL] at hl hK;obtain ⟨js,ks,rfl,h4,h5⟩:=gn hl;rw [aeu];refine acv s h1 h4 hst hx hseen fun T' a' e1 e2 e3 hst'=>?_
   have hx':ar T' g.1=some (.bool (!g.2))\/ar T' g.1=some (.tup []):=by
    by_cases hm:g.1∈br s.flat
    ·cases s with
     | op o =>
       simp only [br,SOp.flat,List.filterMap_cons,List.filterMap_nil] at hm;cases hd:o.dst with
       | none=>simp [hd] at hm
       | some d =>
         simp [hd] at hm;exact absurd hm.symm (h2 d (by simp [cw,hd])).2
     | grp g' t b body d x =>
       simp only [okO,aek,ae2,afj,decide_eq_false_iff_not] at h1;simp only [br,SOp.flat,afR,aeo] at hm;rcases hm with hm|hm
       ·exact absurd hm h1.1.2
       ·simp [dJ] at hm;exact absurd hm.symm (h2 d (by simp [cw])).2
    ·exact hx.imp (e1 _ _ hm) (e2 _)
   refine P2 r h3 h5 hst' hx' (fun d hd=>?_) fun T'' a'' f1 f2 hst''=>hK T'' a'' (fun t v ht hv=>?_) (fun d hd=>f2 d (e2 d hd)) hst''
   ·rcases aeo.1 hd with hd|hd
    ·exact e3 d hd
    ·exact e2 d (hseen d hd)
   ·simp only [br,afR,aeo,not_or] at ht;exact f1 t v ht.2 (e1 t v ht.1 hv)
end
theorem Fr.put {ds:List Nat} {T:Tm} {d:Option Nat} {v:AV} (h:Fr ds T) (hd:∀ k,d=some k->k ∉ ds):Fr ds (cn d v T):=fun k hk=>by
 rw [kD (fun e=>hd k e hk)];exact h k hk
mutual
theorem aaa (s:SOp):∀ d∈gds [s],d∈br s.flat:=by
 cases s with
 | op o=>simp [gds]
 | grp g t b body d x =>
   intro u hu;simp only [gds,aeJ] at hu;simp only [SOp.flat,br,afR,aeo];exact .inl hu
end
theorem NK (s:SOp) (r:List SOp):gds (s::r)=gds [s]++gds r:=by cases s<;>simp [gds]
theorem NJ:∀ (l:List SOp),∀ d∈gds l,d∈br (SOp.flatL l)
 | [],d,h=>by simp [gds] at h
 | s::r,d,h=>by
   rw [NK,aeo] at h;simp only [SOp.flatL,br,afR,aeo];exact h.imp (aaa s d) (NJ r d)
theorem Uz (s:SOp):∀ d∈cw s,d∈br s.flat:=by
 cases s with
 | op o =>
   intro d hd;simp only [cw,agS] at hd;simp [SOp.flat,br,hd]
 | grp g t b body d x =>
   intro u hu;simp only [cw,aeO] at hu;subst hu;simp [SOp.flat,br,dJ]
mutual
theorem ac2 {own:Nat->Nat} {ops:Array Oper} {Q:Exit->Act->World->Prop} {L:List Blk} (s:SOp) {g:Nat×Bool} {seen:List Nat} {is rest:List Nat} {T:Tm} {a:Act} {E:Env} {w:World} {k:Tm->Prop} (hok:okO g seen s=true) (hl:bO P N own ops is=some s.flat)
  (hst:St w0 S0 N E T L a w) (hx:ar T g.1=some (.bool g.2)) (hfr:∀ d∈gds [s],ar T d=none) (h:GO P L s k T)
  (hK:∀ E' T' a' w',E.le E'->k T'->Ext (cw s) T T'->(∀ d,d ∉ cw s->ar T d=none->ar T' d=none)->St w0 S0 N E' T' L a' w'->wpOpsIn (fL ro) 0 P ops Q rest a' w'):wpOpsIn (fL ro) 0 P ops Q (is++rest) a w:=by
 cases s with
 | op o =>
   simp only [SOp.flat] at hl;obtain ⟨i,rfl,h1⟩:=ju hl;simp only [okO,decide_eq_true_eq] at hok;simp only [GO] at h;have ext:∀ v,Ext (cw (.op o)) T (cn o.dst v T):=fun v t x ht hv=>by
    rw [kD (fun e=>ht (by simp [cw,e]))];exact hv
   have fre:∀ v d,d ∉ cw (.op o)->ar T d=none->ar (cn o.dst v T) d=none:=fun v d hd hn=>by
    rw [kD (fun e=>hd (by simp [cw,e]))];exact hn
   have hA:AOp P o (fun T' L'=>L'=L/\∃ v,T'=cn o.dst v T/\k T') T L:=by
    obtain ⟨d,op,gd⟩:=o;have call:∀ {f:FuncId} {args:List AV},aaL P f args L (aaD k d T)->ae P f args L (Kon (fun T' L'=>L'=L/\∃ v,T'=cn d v T/\k T') d T):=fun {f args} ⟨v,h1,h2⟩ =>
     h1.mono fun av L' ⟨e1,e2⟩=>by subst e1;subst e2;exact ⟨rfl,av,rfl,h2⟩
    simp only [GOp] at h;simp only [AOp];cases op
    case call f xs =>
     simp only at h ⊢;cases he:gw T xs with
     | none=>rw [he] at h;exact h.elim
     | some args=>rw [he] at h;exact call h
    case callv f xs =>
     simp only at h ⊢;cases hf:evX T f with
     | none=>rw [hf] at h;exact h.elim
     | some u =>
       rw [hf] at h;cases he:gw T xs with
       | none=>rw [he] at h;cases u<;>exact h.elim
       | some args =>
         rw [he] at h;cases u<;>simp only [Xg] at h
         exact call h
    all_goals
     simp only at h ⊢;generalize aj T L _=r at h ⊢;cases r with
     | none=>exact h.elim
     | some r =>
       obtain ⟨c,av,L'⟩:=r;exact ⟨h.1,h.2.1,av,rfl,h.2.2⟩
   refine P7 h1 hst (.inr ⟨g.1,g.2,hok,hx⟩) hA fun E' T' L' a' w' hle ⟨e1,v,e2,hk⟩ hst'=>?_
   subst e1;subst e2;exact hK E' _ a' w' hle hk (ext v) (fre v) hst'
 | grp g' t b body d x =>
   simp only [okO,aek,decide_eq_true_eq,ae2,afj,decide_eq_false_iff_not] at hok;obtain ⟨⟨⟨⟨hg',ht⟩,htb⟩,hgb⟩,hb⟩:=hok;simp only [SOp.flat] at hl;obtain ⟨js,ks,rfl,h1,h2⟩:=gn hl;obtain ⟨i,rfl,h3⟩:=ju h2;rw [aeu];simp only [GO] at h;have hfr':Fr (br (SOp.flatL body)) T:=fun d' hd'=>hfr d' (by simp [gds,hd'])
   have fin:∀ {E':Env} {T':Tm} {a':Act} {w':World} (p q:Bool),E.le E'->St w0 S0 N E' T' L a' w'->Ext (br (SOp.flatL body)) T T'->ar T t=some (.bool p)->(p=b->evX T' x=some (.bool q))->k ((d,.bool (mrg b p q))::T)->wpOpsIn (fL ro) 0 P ops Q ([i]++rest) a' w':=fun {E' T' a' w'} p q hle hst' hext hp hq hk=>by
    have hv:aj T' L (.pick (.tmp t) (if b then x else .av (.bool true)) (if b then .av (.bool false) else x))=some (True,.bool (mrg b p q),L):=by
     have ht':ar T' t=some (.bool p):=hext _ _ htb hp;cases b<;>cases p<;>simp [aj,evX,ht',mrg]<;>exact hq rfl
    refine P7 h3 hst' (.inr ⟨g.1,g.2,by simp [dJ,hg'],hext _ _ hgb hx⟩) (K:=fun T'' L''=>T''=(d,.bool (mrg b p q))::T'/\L''=L) ?_ fun E'' T'' L'' a'' w'' hle' ⟨e1,e2⟩ hst''=>?_
    ·simp only [dJ,AOp,hv,Res,cn,and_self]
    ·subst e1;subst e2;refine hK E'' ((d,.bool (mrg b p q))::T) a'' w'' (hle.trans hle') hk (fun u v hu hv=>?_) (fun u hu hn=>?_) ⟨hst''.1,hst''.2.1.weak fun u v hu=>?_,hst''.2.2⟩
     ·simp only [cw,aeO] at hu;simp only [ar];rw [if_neg (Ne.symm hu)];exact hv
     ·simp only [cw,aeO] at hu;simp only [ar];rw [if_neg (Ne.symm hu)];exact hn
     ·simp only [ar] at hu ⊢;split
      ·rename_i e;rw [if_pos e] at hu;exact hu
      ·rename_i e
       rw [if_neg e] at hu;refine hext u v (fun hm=>?_) hu;rw [hfr' u hm] at hu;cases hu
   rcases hp:ar T t with _|u
   ·rw [hp] at h;exact h.elim
   rw [hp] at h;cases u<;>try exact h.elim
   rename_i p
   obtain ⟨q,hq,hk⟩:=h;by_cases e:p=b
   ·subst e;refine TD body hb h1 hst hp (fun d hd=>hfr' d (NJ body d hd)) (hq rfl) fun E' T' a' w' hle hx' hext hst'=>fin p q hle hst' hext hp (fun _=>hx') hk
   ·have:p = !b:=by cases p<;>cases b<;>simp_all
    refine P2 body hb h1 hst (.inl (by rw [hp,this])) (by simp) fun T' a' hext _ hst'=>fin p q (.refl E) hst' hext hp (fun e'=>absurd e' e) hk
theorem TD {own:Nat->Nat} {ops:Array Oper} {Q:Exit->Act->World->Prop} {L:List Blk} (l:List SOp) {g:Nat×Bool} {seen:List Nat} {is rest:List Nat} {T:Tm} {a:Act} {E:Env} {w:World} {k:Tm->Prop} (hok:okB g seen l=true) (hl:bO P N own ops is=some (SOp.flatL l))
  (hst:St w0 S0 N E T L a w) (hx:ar T g.1=some (.bool g.2)) (hfr:Fr (gds l) T) (h:GL P L l k T)
  (hK:∀ E' T' a' w',E.le E'->k T'->Ext (br (SOp.flatL l)) T T'->St w0 S0 N E' T' L a' w'->wpOpsIn (fL ro) 0 P ops Q rest a' w'):wpOpsIn (fL ro) 0 P ops Q (is++rest) a w:=by
 cases l with
 | nil =>
   simp only [SOp.flatL] at hl;have:is=[]:=by
    cases is with
    | nil=>rfl
    | cons i is =>
      simp only [bO] at hl;split at hl<;>cases hl
   subst this;rw [GL] at h;exact hK E T a w (.refl E) h (fun _ _ _ h=>h) hst
 | cons s r =>
   simp only [okB,aek,ael,ae2,bne_iff_ne,afj,decide_eq_false_iff_not] at hok;obtain ⟨⟨h1,h2⟩,h3⟩:=hok;simp only [SOp.flatL] at hl;obtain ⟨js,ks,rfl,h4,h5⟩:=gn hl;rw [aeu];rw [GL] at h;rw [NK] at hfr;refine ac2 s h1 h4 hst hx (fun d hd=>hfr d (agn _ hd)) h fun E' T' a' w' hle hk' e1 e2 hst'=>?_
   refine TD r h3 h5 hst' (e1 _ _ (fun hm=>(h2 _ hm).2 rfl) hx) (fun d hd=>e2 d (fun hm=>(h2 d hm).1 hd) (hfr d (agT _ hd))) hk' fun E'' T'' a'' w'' hle' hk'' f1 hst''=>hK E'' T'' a'' w'' (hle.trans hle') hk'' (fun t v ht hv=>?_) hst''
   simp only [SOp.flatL,br,afR,aeo,not_or] at ht;exact f1 t v ht.2 (e1 t v (fun hm=>ht.1 (Uz s t hm)) hv)
end
theorem aca {o:ak} {K:Tm->List Blk->Prop} {T:Tm} {L:List Blk} (h:AOp P o K T L):AOp P o (fun T' L'=>K T' L'/\∃ v,T'=cn o.dst v T) T L:=by
 obtain ⟨d,op,gd⟩:=o;have call:∀ {f:FuncId} {args:List AV},ae P f args L (Kon K d T)->ae P f args L (Kon (fun T' L'=>K T' L'/\∃ v,T'=cn d v T) d T):=fun {f args} h=>h.mono fun av L' h=>⟨h,av,rfl⟩
 simp only [AOp] at h ⊢;cases op
 case call f xs =>
  simp only at h ⊢;cases he:gw T xs with
  | none=>rw [he] at h;exact h.elim
  | some args=>rw [he] at h;exact call h
 case callv f xs =>
  simp only at h ⊢;cases hf:evX T f with
  | none=>rw [hf] at h;cases he:gw T xs<;>rw [he] at h<;>exact h.elim
  | some u =>
    rw [hf] at h;cases he:gw T xs with
    | none=>rw [he] at h;cases u<;>exact h.elim
    | some args =>
      rw [he] at h;cases u<;>simp only [aaJ] at h
      case yld i=>exact aaN.mono h fun av L' h=>⟨h,av,rfl⟩
      exact call h
 all_goals
  simp only at h ⊢;generalize aj T L _=r at h ⊢;cases r with
  | none=>exact h.elim
  | some r=>exact ⟨h.1,h.2,r.2.1,rfl⟩
theorem DJ {own:Nat->Nat} {ops:Array Oper} {Q:Exit->Act->World->Prop} {K:Tm->List Blk->Prop}:∀ (l:List SOp) {is:List Nat} {T:Tm} {L:List Blk} {a:Act} {E:Env} {w:World},okS l=true->bO P N own ops is=some (SOp.flatL l) ->
  St w0 S0 N E T L a w->Fr (gds l) T->SL P l K T L->(∀ E' T' L' a' w',E.le E'->K T' L'->St w0 S0 N E' T' L' a' w'->Q .normal a' w')->wpOpsIn (fL ro) 0 P ops Q is a w
 | [],is,T,L,a,E,w,hok,hl,hst,hfr,h,hK=>by
   simp only [SOp.flatL] at hl;have:is=[]:=by
    cases is with
    | nil=>rfl
    | cons i is =>
      simp only [bO] at hl;split at hl<;>cases hl
   subst this;exact hK E T L a w (.refl E) h hst
 | .op o::r,is,T,L,a,E,w,hok,hl,hst,hfr,h,hK=>by
   simp only [okS,aek,ael,agS,ae2,afj,decide_eq_false_iff_not] at hok;simp only [SOp.flatL,SOp.flat,ag6] at hl;obtain ⟨js,ks,rfl,h1,h2⟩:=gn (l:=[o]) hl;obtain ⟨i,rfl,h3⟩:=ju h1;have hfr':∀ v,Fr (gds r) (cn o.dst v T):=fun v=>Fr.put (ds:=gds r) hfr fun k hk=>hok.1 k hk
   have run:(o.guard=none\/∃ t b,o.guard=some (t,b)/\ar T t=some (.bool b))->AOp P o (SL P r K) T L->wpOpsIn (fL ro) 0 P ops Q ([i]++ks) a w:=fun hg h =>
    P7 h3 hst hg (aca h) fun E' T' L' a' w' hle ⟨hs,v,e⟩ hst'=>by
     subst e;exact DJ r hok.2 h2 hst' (hfr' v) hs fun E'' T'' L'' a'' w'' hle'=>hK E'' T'' L'' a'' w'' (hle.trans hle')
   have skip:∀ t b,o.guard=some (t,b)->(ar T t=some (.bool (!b))\/ar T t=some (.tup []))->SL P r K (cn o.dst (.tup []) T) L->wpOpsIn (fL ro) 0 P ops Q ([i]++ks) a w:=fun t b hg hx h =>
    QN h3 hst hg hx fun a' hst'=>DJ r hok.2 h2 hst' (hfr' _) h hK
   rw [SL] at h;rcases hg:o.guard with _|⟨t,b⟩
   ·rw [hg] at h;exact run (.inl hg) h
   ·rw [hg] at h;simp only at h;rcases hx:ar T t with _|u
    ·rw [hx] at h;exact h.elim
    rw [hx] at h;cases u<;>try exact h.elim
    ·rename_i x
     rw [H1] at h;by_cases e:x=b
     ·rw [if_pos e] at h;exact run (.inr ⟨t,b,hg,by rw [hx,e]⟩) h
     ·rw [if_neg e] at h;have:x = !b:=by cases x<;>cases b<;>simp_all
      exact skip t b hg (.inl (by rw [hx,this])) h
    ·rename_i l
     cases l with
     | cons _ _=>exact h.elim
     | nil=>exact skip t b hg (.inr hx) h
 | .grp g t b body d x::r,is,T,L,a,E,w,hok,hl,hst,hfr,h,hK=>by
   simp only [okS,aek,decide_eq_true_eq,ae2,afj,decide_eq_false_iff_not] at hok;obtain ⟨⟨⟨⟨hg,htb⟩,hb⟩,hd⟩,hr⟩:=hok;simp only [SOp.flatL,SOp.flat,aeu] at hl;obtain ⟨js,ks',rfl,h1,h2⟩:=gn hl;obtain ⟨is',ks,rfl,h2',h4⟩:=gn h2;obtain ⟨i,rfl,h3⟩:=ju h2';rw [SL] at h;have hfr1:Fr (br (SOp.flatL body)) T:=fun d' hd'=>hfr d' (by simp [gds,hd'])
   have hfr2:Fr (gds r) T:=fun d' hd'=>hfr d' (by simp [gds,hd'])
   have fin:∀ {E':Env} {T':Tm} {a':Act} {w':World} (p q:Bool),E.le E'->St w0 S0 N E' T' L a' w'->Ext (br (SOp.flatL body)) T T'->ar T t=some (.bool p)->(p=b->evX T' x=some (.bool q))->SL P r K ((d,.bool (mrg b p q))::T) L->wpOpsIn (fL ro) 0 P ops Q ([i]++ks) a' w':=fun {E' T' a' w'} p q hle hst' hext hp hq hk=>by
    have hv:aj T' L (.pick (.tmp t) (if b then x else .av (.bool true)) (if b then .av (.bool false) else x))=some (True,.bool (mrg b p q),L):=by
     have ht':ar T' t=some (.bool p):=hext _ _ htb hp;cases b<;>cases p<;>simp [aj,evX,ht',mrg]<;>exact hq rfl
    refine P7 h3 hst' (.inl (by simp [dJ,hg])) (K:=fun T'' L''=>T''=(d,.bool (mrg b p q))::T'/\L''=L) ?_ fun E'' T'' L'' a'' w'' hle' ⟨e1,e2⟩ hst''=>?_
    ·simp only [dJ,AOp,hv,Res,cn,and_self]
    ·subst e1;subst e2;refine DJ r hr h4 (T:=(d,.bool (mrg b p q))::T) ⟨hst''.1,hst''.2.1.weak fun u v hu=>?_,hst''.2.2⟩ (Fr.put (d:=some d) hfr2 fun k hk=>by cases hk;exact hd) hk fun E3 T3 L3 a3 w3 hle3=>hK E3 T3 L3 a3 w3 ((hle.trans hle').trans hle3)
     simp only [ar] at hu ⊢;split
     ·rename_i e;rw [if_pos e] at hu;exact hu
     ·rename_i e
      rw [if_neg e] at hu;refine hext u v (fun hm=>?_) hu;rw [hfr1 u hm] at hu;cases hu
   rcases hp:ar T t with _|u
   ·rw [hp] at h;exact h.elim
   rw [hp] at h;cases u<;>try exact h.elim
   rename_i p
   obtain ⟨q,hq,hk⟩:=h;by_cases e:p=b
   ·subst e;exact TD body hb h1 hst hp (fun d hd=>hfr1 d (NJ body d hd)) (hq rfl) fun E' T' a' w' hle hx' hext hst'=>fin p q hle hst' hext hp (fun _=>hx') hk
   ·have:p = !b:=by cases p<;>cases b<;>simp_all
    exact P2 body hb h1 hst (.inl (by rw [hp,this])) (by simp) fun T' a' hext _ hst'=>fin p q (.refl E) hst' hext hp (fun e'=>absurd e' e) hk
end
theorem abU {p b:Bool} (h:¬ p=b):p = !b:=by cases p<;>cases b<;>simp_all
mutual
def Tq (g:Option (Nat×Bool)) (seen D:List Nat):SOp->Bool
 | .op o=>decide (o.guard=g) && o.reads.all (fun t => !D.contains t)
 | .grp g' t b body d x=>decide (g'=g) && (g.isNone || seen.contains t) && !D.contains t && !(br (SOp.flatL body)).contains t && (match g with|some g1 => !(br (SOp.flatL body)).contains g1.1|none=>true) &&
  x.tmps.all (fun t => !(D++gds body).contains t) && okG (some (t,b)) [] D body
def okG (g:Option (Nat×Bool)) (seen D:List Nat):List SOp->Bool
 | []=>true
 | s::r=>Tq g seen D s && (cw s).all (fun d => !(D++gds [s]).contains d && !(gds r).contains d && (match g with|some g1=>d != g1.1|none=>true)) && okG g (cw s++seen) (D++gds [s]) r
end
section
variable {P:Program} {L:List Blk} {K:Tm->List Blk->Prop}
def AR (P:Program) (K:Tm->List Blk->Prop) (l:List ak) (L:List Blk) (T:Tm):Prop:=AG P K (l.map fun o=>(o,.read 0 0)) [L] [] T
theorem adE {T:Tm} (h:K T L):AR P K [] L T:=h
theorem Qj {o:ak} {r:List ak} {T:Tm} {v:AV} (h1:AQ P o T L v) (h2:AR P K r L (cn o.dst v T)):AR P K (o::r) L T:=by
 refine ⟨v,fun L' hL'=>?_,h2⟩;simp at hL';subst hL';exact h1
def Agr (D:List Nat) (T T1:Tm):Prop:=∀ t,t ∉ D->ar T1 t=ar T t
theorem Agr.put {D:List Nat} {T T1:Tm} (h:Agr D T T1) (d:Option Nat) (v:AV):Agr D (cn d v T) (cn d v T1):=fun t ht=>by
 cases d with
 | none=>exact h t ht
 | some d=>simp only [cn,ar];split;rfl;exact h t ht
theorem UL {d:Option Nat} {T:Tm} {t:Nat} (h:ar T t=some (.tup [])):ar (cn d (.tup []) T) t=some (.tup []):=by
 cases d with
 | none=>exact h
 | some d=>simp only [cn,ar];split;rfl;exact h
mutual
theorem ab0 (s:SOp) {g:Nat×Bool} {seen D:List Nat} {rest:List ak} {T:Tm} (hok:Tq (some g) seen D s=true) (hx:ar T g.1=some (.bool (!g.2))\/ar T g.1=some (.tup [])) (hseen:∀ d∈seen,ar T d=some (.tup []))
  (hK:∀ T',(∀ t,t ∉ br s.flat->ar T' t=ar T t)->(∀ d,ar T d=some (.tup [])->ar T' d=some (.tup []))->(∀ d∈cw s,ar T' d=some (.tup []))->AR P K rest L T'):AR P K (s.flat++rest) L T:=by
 have skip:∀ (o:ak) (T:Tm),o.guard=some g->(ar T g.1=some (.bool (!g.2))\/ar T g.1=some (.tup []))->AQ P o T L (.tup []):=fun o T hg hx=>by
  obtain ⟨t,b⟩:=g;simp only [AQ,hg];rcases hx with hx|hx<;>simp only at hx<;>rw [hx]<;>simp
 cases s with
 | op o =>
   simp only [Tq,aek,decide_eq_true_eq] at hok;refine Qj (skip o T hok.1 hx) (hK _ (fun t ht=>kD fun e=>ht (by simp [SOp.flat,br,e])) (fun d hd=>UL hd) fun d hd=>?_);simp only [cw,agS] at hd;rw [hd];simp [cn,ar]
 | grp g' t b body d x =>
   simp only [Tq,aek,decide_eq_true_eq,Option.isNone_some,afQ,ae2,afj,decide_eq_false_iff_not] at hok;obtain ⟨⟨⟨⟨⟨⟨hg',ht⟩,_⟩,htb⟩,hgb⟩,_⟩,hb⟩:=hok;simp only [SOp.flat,aeu];refine RI body hb (.inr (hseen t (by simpa using ht))) (by simp) fun T' h1 h2=>?_
   refine Qj (o:=dJ g' t b d x) (v:=.tup []) (skip _ T' (by simp [dJ,hg']) (by rw [h1 _ hgb];exact hx)) (hK _ (fun u hu=>?_) (fun u hu=>UL (h2 u hu)) fun u hu=>?_)
   ·rw [kD (fun e=>hu (by simp only [dJ] at e;simp [SOp.flat,br,dJ,e]))];exact h1 u fun hm=>hu (by simp only [SOp.flat,br,afR,aeo];exact .inl hm)
   ·simp only [cw,aeO] at hu;subst hu;simp [dJ,cn,ar]
theorem RI (l:List SOp) {g:Nat×Bool} {seen D:List Nat} {rest:List ak} {T:Tm} (hok:okG (some g) seen D l=true) (hx:ar T g.1=some (.bool (!g.2))\/ar T g.1=some (.tup [])) (hseen:∀ d∈seen,ar T d=some (.tup []))
  (hK:∀ T',(∀ t,t ∉ br (SOp.flatL l)->ar T' t=ar T t)->(∀ d,ar T d=some (.tup [])->ar T' d=some (.tup []))->AR P K rest L T'):AR P K (SOp.flatL l++rest) L T:=by
 cases l with
 | nil=>exact hK T (fun _ _=>rfl) (fun _ h=>h)
 | cons s r =>
   simp only [okG,aek,ael,ae2,bne_iff_ne] at hok;obtain ⟨⟨h1,h2⟩,h3⟩:=hok;simp only [SOp.flatL,aeu];refine ab0 s h1 hx hseen fun T' e1 e2 e3=>?_
   have hx':ar T' g.1=some (.bool (!g.2))\/ar T' g.1=some (.tup []):=by
    by_cases hm:g.1∈br s.flat
    ·cases s with
     | op o =>
       simp only [br,SOp.flat,List.filterMap_cons,List.filterMap_nil] at hm;cases hd:o.dst with
       | none=>simp [hd] at hm
       | some d =>
         simp [hd] at hm;exact absurd hm.symm (h2 d (by simp [cw,hd])).2
     | grp g' t b body d x =>
       simp only [Tq,aek,ae2,afj,decide_eq_false_iff_not] at h1;simp only [br,SOp.flat,afR,aeo] at hm;rcases hm with hm|hm
       ·exact absurd hm h1.1.1.2
       ·simp [dJ] at hm;exact absurd hm.symm (h2 d (by simp [cw])).2
    ·exact hx.imp (fun h=>by rw [e1 _ hm];exact h) (e2 _)
   refine RI r h3 hx' (fun d hd=>?_) fun T'' f1 f2=>hK T'' (fun t ht=>?_) (fun d hd=>f2 d (e2 d hd))
   ·rcases aeo.1 hd with hd|hd
    ·exact e3 d hd
    ·exact e2 d (hseen d hd)
   ·simp only [SOp.flatL,br,afR,aeo,not_or] at ht;rw [f1 t ht.2,e1 t ht.1]
end
def Nz (l:List SOp):List Nat:=l.flatMap cw
theorem Sx:∀ (l:List SOp),∀ d∈Nz l,d∈br (SOp.flatL l)
 | [],d,h=>by simp [Nz] at h
 | s::r,d,h=>by
   simp only [Nz,ae4,aeo] at h;simp only [SOp.flatL,br,afR,aeo];exact h.imp (Uz s d) (Sx r d)
theorem adu {o:ak} {k:Tm->Prop} {T:Tm} (h:GOp P L o k T):∃ v,AQv P o T L v/\k (cn o.dst v T):=by
 obtain ⟨d,op,gd⟩:=o;simp only [GOp] at h;unfold AQv;cases op
 case call f xs =>
  simp only at h ⊢;cases he:gw T xs with
  | none=>rw [he] at h;exact h.elim
  | some args=>rw [he] at h;obtain ⟨v,h1,h2⟩:=h;exact ⟨v,h1,h2⟩
 case callv f xs =>
  simp only at h ⊢;cases hf:evX T f with
  | none=>rw [hf] at h;exact h.elim
  | some u =>
    rw [hf] at h;cases he:gw T xs with
    | none=>rw [he] at h;cases u<;>exact h.elim
    | some args =>
      rw [he] at h;cases u<;>simp only [Xg] at h
      obtain ⟨v,h1,h2⟩:=h;exact ⟨v,h1,h2⟩
 all_goals
  simp only at h ⊢;generalize aj T L _=r at h ⊢;cases r with
  | none=>exact h.elim
  | some r =>
    obtain ⟨c,av,L'⟩:=r;exact ⟨av,⟨h.1,rfl,h.2.1⟩,h.2.2⟩
mutual
theorem adj (s:SOp) {g:Option (Nat×Bool)} {seen D:List Nat} {rest:List ak} {T T1:Tm} {k:Tm->Prop} (hok:Tq g seen D s=true) (hx:∀ g1,g=some g1->g1.1 ∉ D/\ar T g1.1=some (.bool g1.2)) (hfr:∀ d∈gds [s],ar T d=none) (ha:Agr D T T1) (h:GO P L s k T)
  (hK:∀ T' T1',k T'->Agr (D++gds [s]) T' T1'->(∀ t,t ∉ cw s->ar T' t=ar T t)->AR P K rest L T1'):AR P K (s.flat++rest) L T1:=by
 cases s with
 | op o =>
   simp only [Tq,aek,decide_eq_true_eq,ael,ae2,afj,decide_eq_false_iff_not] at hok;simp only [GO] at h;obtain ⟨v,h1,h2⟩:=adu h;have hq:AQ P o T L v:=by
    unfold AQ;rw [hok.1];cases g with
    | none=>exact h1
    | some g1 =>
      obtain ⟨t,b⟩:=g1;have:=(hx _ rfl).2;simp only at this ⊢;rw [this];simp [h1]
   refine Qj (hq.congr fun t ht=>(ha t (hok.2 t ht)).symm) (hK _ _ h2 (fun t ht=>?_) fun t ht=>kD fun e=>ht (by simp [cw,e]));exact (ha.put _ _) t fun hm=>ht (agn _ hm)
 | grp g' t b body d x =>
   simp only [Tq,aek,decide_eq_true_eq,ael,ae2,afj,decide_eq_false_iff_not] at hok;obtain ⟨⟨⟨⟨⟨⟨hg',_⟩,htD⟩,htb⟩,hgb⟩,hxD⟩,hb⟩:=hok;simp only [GO] at h;have hfr':∀ u∈br (SOp.flatL body),ar T u=none:=fun u hu=>hfr u (by simp [gds,hu])
   have hgd:gds [SOp.grp g' t b body d x]=br (SOp.flatL body):=by simp [gds]
   rw [hgd] at hK;simp only [SOp.flat,aeu];have fin:∀ {T1b:Tm} (p q:Bool),ar T t=some (.bool p)->(∀ u,u ∉ D->u ∉ br (SOp.flatL body)->ar T1b u=ar T u)->(p=b->evX T1b x=some (.bool q))->k ((d,.bool (mrg b p q))::T)->AR P K ([dJ g' t b d x]++rest) L T1b:=fun {T1b} p q hp hT hq hk=>by
    have hv:aj T1b L (.pick (.tmp t) (if b then x else .av (.bool true)) (if b then .av (.bool false) else x))=some (True,.bool (mrg b p q),L):=by
     have ht':ar T1b t=some (.bool p):=by rw [hT t htD htb];exact hp
     cases b<;>cases p<;>simp [aj,evX,ht',mrg]<;>exact hq rfl
    have hqv:AQv P (dJ g' t b d x) T1b L (.bool (mrg b p q)):=by
     simp only [AQv,dJ,hv,and_self]
    have hq:AQ P (dJ g' t b d x) T1b L (.bool (mrg b p q)):=by
     unfold AQ;cases g with
     | none=>simp only [dJ,hg'];exact hqv
     | some g1 =>
       obtain ⟨t1,b1⟩:=g1;have h1:=hx _ rfl;simp only [dJ,hg'];rw [show ar T1b t1=some (.bool b1) by rw [hT t1 h1.1 (by simpa using hgb)];exact h1.2];simp;exact hqv
    refine Qj hq (hK ((d,.bool (mrg b p q))::T) _ hk (fun u hu=>?_) fun u hu=>?_)
    ·simp only [aeo,not_or] at hu;simp only [dJ,cn,ar];split
     ·rfl
     ·exact hT u hu.1 hu.2
    ·simp only [cw,aeO] at hu;simp only [ar];rw [if_neg (Ne.symm hu)]
   rcases hp:ar T t with _|u
   ·rw [hp] at h;exact h.elim
   rw [hp] at h;cases u<;>try exact h.elim
   rename_i p
   obtain ⟨q,hq,hk⟩:=h;by_cases e:p=b
   ·subst e;refine TU body hb (fun g1 e=>by cases e;exact ⟨htD,hp⟩) (fun u hu=>hfr' u (NJ body u hu)) ha (hq rfl) fun Tb T1b hxb hab hTb=>fin p q hp (fun u h1 h2=>?_) (fun _=>?_) hk
    ·rw [hab u (by simp only [aeo,not_or];exact ⟨h1,fun hm=>h2 (NJ body u hm)⟩)];exact hTb u fun hm=>h2 (Sx body u hm)
    ·have hxb':evX Tb x=some (.bool q):=hxb;rw [<- hxb'];cases x with
     | av a=>rfl
     | tmp t'=>exact hab t' (by have:=hxD t' (by simp [Opd.tmps]);simpa using this)
   ·have:p = !b:=abU e;refine RI body hb (.inl (by show ar T1 t=_;rw [ha t htD,hp,this])) (by simp) fun T1b h1 _=>fin p q hp (fun u h2 h3=>?_) (fun e'=>absurd e' e) hk
    rw [h1 u h3,ha u h2]
theorem TU (l:List SOp) {g:Option (Nat×Bool)} {seen D:List Nat} {rest:List ak} {T T1:Tm} {k:Tm->Prop} (hok:okG g seen D l=true) (hx:∀ g1,g=some g1->g1.1 ∉ D/\ar T g1.1=some (.bool g1.2)) (hfr:∀ d∈gds l,ar T d=none) (ha:Agr D T T1) (h:GL P L l k T)
  (hK:∀ T' T1',k T'->Agr (D++gds l) T' T1'->(∀ t,t ∉ Nz l->ar T' t=ar T t)->AR P K rest L T1'):AR P K (SOp.flatL l++rest) L T1:=by
 cases l with
 | nil =>
   rw [GL] at h;exact hK T T1 h (by simpa [gds] using ha) (fun _ _=>rfl)
 | cons s r =>
   simp only [okG,aek,ael,ae2,afj,decide_eq_false_iff_not] at hok;obtain ⟨⟨h1,h2'⟩,h3⟩:=hok;have h2:∀ d∈cw s,d ∉ gds r:=fun d hd=>(h2' d hd).1.2
   simp only [SOp.flatL,aeu];rw [GL] at h;rw [NK] at hfr hK;refine adj s h1 hx (fun d hd=>hfr d (agn _ hd)) ha h fun T' T1' hk e1 e2=>?_
   refine TU r h3 (fun g1 hg=>?_) (fun d hd=>?_) e1 hk fun T'' T1'' hk' f1 f2=>hK T'' T1'' hk' (by rwa [aeu] at f1) fun t ht=>?_
   ·subst hg;have hne:g1.1 ∉ cw s:=fun hm=>by
     have:=(h2' _ hm).2;simp at this
    have hng:g1.1 ∉ gds [s]:=fun hm=>by
     cases s with
     | op o=>simp [gds] at hm
     | grp g' t b body d x =>
       simp only [Tq,aek,ae2,afj,decide_eq_false_iff_not] at h1;simp only [gds,aeJ] at hm;exact h1.1.1.2 hm
    have h4:=hx g1 rfl;exact ⟨by simp only [aeo,not_or];exact ⟨h4.1,hng⟩,by rw [e2 _ hne];exact h4.2⟩
   ·rw [e2 d (fun hm=>h2 d hm hd)];exact hfr d (agT _ hd)
   ·simp only [Nz,ae4,aeo,not_or] at ht;rw [f2 t ht.2,e2 t ht.1]
end
theorem UA:∀ (l:List SOp) {g:Option (Nat×Bool)} {seen D:List Nat},okG g seen D l=true->∀ t∈Nz l,t ∉ D++gds l
 | [],_,_,_,_,t,h=>by simp [Nz] at h
 | s::r,g,seen,D,hok,t,h=>by
   simp only [okG,aek,ael,ae2,afj,decide_eq_false_iff_not] at hok;obtain ⟨⟨h1,h2⟩,h3⟩:=hok;rw [NK];simp only [Nz,ae4,aeo] at h;rcases h with h|h
   ·have:=(h2 t h).1;simp only [aeo,not_or] at this ⊢;exact ⟨this.1.1,this.1.2,this.2⟩
   ·have:=UA r h3 t h;simp only [aeo,not_or] at this ⊢;exact ⟨this.1.1,this.1.2,this.2⟩
theorem Yw {l:List SOp} {T:Tm} {k:Tm->Prop} (hok:okG none [] [] l=true) (hfr:Fr (gds l) T) (h:GL P L l k T):AR P (fun T1 L'=>L'=L/\∃ T',k T'/\∀ t v,ar T' t=some v->ar T1 t=some v) (SOp.flatL l) L T:=by
 have:=TU (K:=fun T1 L'=>L'=L/\∃ T',k T'/\∀ t v,ar T' t=some v->ar T1 t=some v) (rest:=[]) l hok (fun _ e=>by cases e) hfr (T1:=T) (fun _ _=>rfl) h fun T' T1' hk e1 e2=>adE ⟨rfl,T',hk,fun t v hv=>?_⟩
 ·simpa using this
 ·by_cases hm:t∈gds l
  ·by_cases ho:t∈Nz l
   ·exact absurd (by simpa using hm) (UA l hok t ho)
   ·rw [e2 t ho,hfr t hm] at hv;cases hv
  ·rw [e1 t (by simpa using hm)];exact hv
end
section
variable {P:Program} {r:Option Nat} {w0:World} {S0:SB} {N:Nat}
inductive bD where
 | skip
 | sreg (sops:List SOp) (mask:List Bool)
 | sdreg (sops:List SOp) (kds:List Kd) (mask:List Bool)
 | dregM (qk:List (ak×Kd)) (ts:List ak) (mask:List Bool)
 | region (ops:List ak)
 | dregion (qk:List (ak×Kd)) (ts:List ak)
 | seq (a b:bD)
 | cond (c:Opd) (a b:bD)
 | block (id:Nat) (c:bD)
 | loop (c:bD)
 | exit (id:Nat)
 | ret
 | rangeF (g:Opd) (ps:List Nat) (x y:bD)
 | scope (c:bD)
 | label
 deriving Inhabited
def bD.raw:bD->bD
 | .sreg s _=>.region (SOp.flatL s)
 | .dregM qk ts _=>.dregion qk ts
 | .sdreg s kds _=>.dregion ((SOp.flatL s).zip kds) ((SOp.flatL s).drop kds.length)
 | .seq a b=>.seq a.raw b.raw
 | .cond c a b=>.cond c a.raw b.raw
 | .block id c=>.block id c.raw
 | .loop c=>.loop c.raw
 | .rangeF g ps x y=>.rangeF g ps x.raw y.raw
 | .scope c=>.scope c.raw
 | c=>c
def bD.hasRF:bD->Bool
 | .seq a b=>a.hasRF || b.hasRF
 | .cond _ a b=>a.hasRF || b.hasRF
 | .block _ c=>c.hasRF
 | .loop c=>c.hasRF
 | .scope c=>c.hasRF
 | .rangeF ..=>true
 | _=>false
def LOp.effB:LOp->Bool
 | .alloc _ | .box _ | .s2bO _ | .s2bG _ | .rangeS _ | .nextS _ | .store .. | .mkslice .. | .app .. | .appz .. | .copy .. | .clear .. | .mkmap | .mset .. | .mdel .. | .mrange _ | .mnext _=>true
 | .bslice own ..=>own
 | _=>false
def adS (own:Nat->Nat) (i:Nat) (o:ak):Bool:=o.op.effB || own i == 3
def acM (eff:Nat->ak->Bool) (tbl:List Nat) (es:List Nat) (i:Nat) (o:ak):Kd :=
 if o.op.pureB=true then .pure else if eff i o=true then .eff
 else .read (es.filter fun e=>decide (e<i) && !(tbl.getD i 0).testBit e).length (es.filter fun e=>decide (i<e) && !(tbl.getD e 0).testBit i).length
def Tu (eff:Nat->ak->Bool) (tbl:List Nat) (qs:List ak):List (ak×Kd) :=
 let es:=(qs.zipIdx.filter fun p=>eff p.2 p.1).map (·.2)
 qs.zipIdx.map fun p=>(p.1,acM eff tbl es p.2 p.1)
theorem UM (eff:Nat->ak->Bool) (tbl:List Nat) (qs:List ak):(Tu eff tbl qs).map (·.1)=qs:=by
 simp [Tu,afK,Function.comp_def]
def be (P:Program) (N:Nat) (own:Nat->Nat->Nat):Code->Option bD
 | .skip=>some .skip
 | .region id ops false=>(bO P N (own id) ops (List.range ops.size)).map .region
 | .region id ops true=>(bO P N (own id) ops (List.range ops.size)).bind fun los =>
   let n:=SX (kO ops.toList []) 0 los.length
   let qk:=Tu (adS (own id)) (kO ops.toList []) (los.take n)
   if (HI ops los n && decide (n<=los.length) && P.follows .mixedOrders && Oj (kO ops.toList []) qk)=true then some (.dregion qk (los.drop n)) else none
 | .seq a b=>match be P N own a,be P N own b with
   | some x,some y=>some (.seq x y)
   | _,_=>none
 | .cond c a b=>match bx c,be P N own a,be P N own b with
   | some c,some x,some y=>some (.cond c x y)
   | _,_,_=>none
 | .block id c=>(be P N own c).map (.block id)
 | .loop c=>(be P N own c).map .loop
 | .exit id=>some (.exit id)
 | .ret=>some .ret
 | .scope c=>(be P N own c).map .scope
 | .label _=>some .label
 | .rangeFunc g ps x y=>match bx g,be P N own x,be P N own y with
   | some g,some x,some y=>if (!x.hasRF && !y.hasRF && ps.all fun p=>decide (p<N))=true then some (.rangeF g ps.toList x y) else none
   | _,_,_=>none
 | _=>none
structure Bs (w0:World) (S0:SB) (w1:World) (S1:SB):Prop where
 size:w0.heap.size<=w1.heap.size
 fr:∀ k,k<w0.heap.size->¬ S0 k->¬ S1 k/\w1.heap[k]?=w0.heap[k]?
 sub:∀ k,S1 k->S0 k\/w0.heap.size<=k
 os:w1.os=w0.os
 tape:w1.tape=w0.tape
 output:w1.output=w0.output
 low:S1.B=S0.B
theorem Bs.refl (w0:World) (S0:SB):Bs w0 S0 w0 S0:=⟨aeg _,fun _ _ h=>⟨h,rfl⟩,fun _ h=>.inl h,rfl,rfl,rfl,rfl⟩
theorem Bs.trans {w0 w1 w2:World} {S0 S1 S2:SB} (h:Bs w0 S0 w1 S1) (k:Bs w1 S1 w2 S2):Bs w0 S0 w2 S2 :=
 ⟨aeM h.size k.size,fun i hi hs=>by
  obtain ⟨h1,h2⟩:=h.fr i hi hs;obtain ⟨h3,h4⟩:=k.fr i (afO hi h.size) h1;exact ⟨h3,h4.trans h2⟩,fun i hi=>by
  rcases k.sub i hi with h1|h1
  ·exact h.sub i h1
  ·exact .inr (aeM h.size h1),k.os.trans h.os,k.tape.trans h.tape,k.output.trans h.output,k.low.trans h.low⟩
theorem Bs.rel {w0 w1 w:World} {S0 S1:SB} (h:Bs w0 S0 w1 S1) {E:Env} {L:List Blk} (hR:Rel w1 S1 E L w):Rel w0 S0 E L w :=
 ⟨hR.mem,hR.blk,hR.fresh,fun i k c h1 h2 h3=>⟨(hR.own i k c h1 h2 h3).1,by
  rcases (hR.own i k c h1 h2 h3).2 with h4|h4
  ·exact h.sub _ h4
  ·exact .inr (aeM h.size h4)⟩,hR.inj,hR.tkfresh,fun i n sz t k h1 h2 h3=>⟨(hR.tkown i n sz t k h1 h2 h3).1,by
  rcases (hR.tkown i n sz t k h1 h2 h3).2 with h4|h4
  ·exact h.sub _ h4
  ·exact .inr (aeM h.size h4)⟩,hR.tkloc,hR.tkinj,fun k hk hs=>by
  obtain ⟨h1,h2⟩:=h.fr k hk hs;exact (hR.frame k (afO hk h.size) h1).trans h2,aeM h.size hR.size,hR.os.trans h.os,hR.tape.trans h.tape,hR.output.trans h.output,hR.glob,hR.gsz⟩
theorem Rel.ownSub {w0 w:World} {S0:SB} {E:Env} {L:List Blk} (hR:Rel w0 S0 E L w) (k:Nat) (hk:T6 E L k):S0 k\/w0.heap.size<=k:=by
 rcases hk with ⟨i,b,c,h1,h2,h3,rfl⟩|⟨i,n,sz,t,c,h1,h2,h3,rfl⟩
 ·exact (hR.own i b c h1 h2 h3).2
 ·exact (hR.tkown i n sz t c h1 h2 h3).2
theorem Rel.bs {w0 w:World} {S0:SB} {E:Env} {L:List Blk} (hR:Rel w0 S0 E L w):Bs w0 S0 w ⟨T6 E L,S0.B⟩ :=
 ⟨hR.size,fun k hk hs=>⟨fun ho=>by
  rcases hR.ownSub k ho with h1|h1
  ·exact hs h1
  ·omega,hR.frame k hk hs⟩,hR.ownSub,hR.os,hR.tape,hR.output,rfl⟩
theorem WC.bs {w0 w1:World} {S0 S1:SB} {ds:List Deferred} (h:WC w0 S0 ds) (b:Bs w0 S0 w1 S1):WC w1 S1 ds:=⟨by rw [b.low];exact aeM h.1 b.size,h.2.1,fun d hd=>by
 obtain ⟨D,h1,h0,h2,h3,h4⟩:=h.2.2 d hd;obtain ⟨h5,h6⟩:=b.fr D h2 h3;exact ⟨D,h1,by rw [b.low];exact h0,afO h2 b.size,h5,h6.trans h4⟩⟩
def AW (P:Program) (N:Nat) (own:Nat->Nat->Nat) (lc:bD) (Q:Exit->Tm->List Blk->Prop) (T:Tm) (L:List Blk):Prop :=
 ∀ c,be P N own c=some lc.raw->∀ (r:Option Nat),(lc.hasRF=true->r=none)->∀ (w0:World) (S0:SB) (E:Env) (a:Act) (w:World),St w0 S0 N E T L a w ->
  c.wpIn (fL r) 0 P (fun e a' w'=>∃ w1 S1 E' T' L',Bs w0 S0 w1 S1/\E.le E'/\Q e T' L'/\St w1 S1 N E' T' L' a' w') a w
variable {own:Nat->Nat->Nat} {Q:Exit->Tm->List Blk->Prop} {T:Tm} {L:List Blk}
theorem AW.mono {lc:bD} {Q':Exit->Tm->List Blk->Prop} (h:AW P N own lc Q T L) (hq:∀ e T L,Q e T L->Q' e T L):AW P N own lc Q' T L:=fun c hc r hr w0 S0 E a w hst =>
 wpIn_mono (h c hc r hr w0 S0 E a w hst) fun e a' w' ⟨w1,S1,E',T',L',b,h1,h2,h3⟩=>⟨w1,S1,E',T',L',b,h1,hq _ _ _ h2,h3⟩
theorem AW.weakT {lc:bD} {T':Tm} (h:AW P N own lc Q T' L) (hT:∀ t v,ar T' t=some v->ar T t=some v):AW P N own lc Q T L:=fun c hc r hr w0 S0 E a w hst =>
 h c hc r hr w0 S0 E a w (hst.weak hT rfl fun _ _ e=>.inr e)
theorem mE {c:Code} {x:bD} (hc:be P N own c=some x):match x with
  | .skip=>c=.skip
  | .exit id=>c=.exit id
  | .ret=>c=.ret
  | .label=>∃ l,c=.label l
  | .seq x y=>∃ c1 c2,c=.seq c1 c2/\be P N own c1=some x/\be P N own c2=some y
  | .cond o x y=>∃ c0 c1 c2,c=.cond c0 c1 c2/\bx c0=some o/\be P N own c1=some x/\be P N own c2=some y
  | .block id x=>∃ c1,c=.block id c1/\be P N own c1=some x
  | .loop x=>∃ c1,c=.loop c1/\be P N own c1=some x
  | .scope x=>∃ c1,c=.scope c1/\be P N own c1=some x
  | .region ops=>∃ id os,c=.region id os false/\bO P N (own id) os (List.range os.size)=some ops
  | .dregion qk ts=>∃ id os los n,c=.region id os true/\bO P N (own id) os (List.range os.size)=some los/\HI os los n=true/\n<=los.length/\P.follows .mixedOrders=true/\qk.map (·.1)=los.take n/\ts=los.drop n/\Oj (kO os.toList []) qk=true
  | _=>True:=by
 cases c with
 | skip=>cases hc;rfl
 | ret=>cases hc;rfl
 | exit id=>cases hc;rfl
 | label l=>cases hc;exact ⟨_,rfl⟩
 | goto l=>cases hc
 | refuse s=>cases hc
 | block id c=>simp only [be,aeI] at hc;obtain ⟨_,h1,rfl⟩:=hc;exact ⟨_,rfl,h1⟩
 | loop c=>simp only [be,aeI] at hc;obtain ⟨_,h1,rfl⟩:=hc;exact ⟨_,rfl,h1⟩
 | scope c=>simp only [be,aeI] at hc;obtain ⟨_,h1,rfl⟩:=hc;exact ⟨_,rfl,h1⟩
 | seq a b => simp only [be] at hc; split at hc <;> try (cases hc; done)
              rename_i h1 h2;cases hc;exact ⟨_,_,rfl,h1,h2⟩
 | cond k a b => simp only [be] at hc; split at hc <;> try (cases hc; done)
                 rename_i h1 h2 h3;cases hc;exact ⟨_,_,_,rfl,h1,h2,h3⟩
 | rangeFunc f ps a b =>
   simp only [be] at hc
   repeat' split at hc
   all_goals cases hc
   trivial
 | region id ops draw =>
   cases draw
   ·simp only [be,aeI] at hc;obtain ⟨_,h1,rfl⟩:=hc;exact ⟨_,_,rfl,h1⟩
   ·simp only [be,agk] at hc;obtain ⟨los,h1,hc⟩:=hc;split at hc
    ·rename_i hb
     simp only [aek,decide_eq_true_eq] at hb;cases hc;exact ⟨_,_,los,_,rfl,h1,hb.1.1.1,hb.1.1.2,hb.1.2,UM _ _ _,rfl,hb.2⟩
    ·cases hc
theorem ZN {c:Code} (hc:be P N own c=some .skip):c=.skip:=mE hc
theorem ZP {c:Code} {id:Nat} (hc:be P N own c=some (.exit id)):c=.exit id:=mE hc
theorem abA {c:Code} (hc:be P N own c=some .ret):c=.ret:=mE hc
theorem W3 {c:Code} {x y:bD} (hc:be P N own c=some (.seq x y)):∃ c1 c2,c=.seq c1 c2/\be P N own c1=some x/\be P N own c2=some y:=mE hc
theorem UP {c:Code} {o:Opd} {x y:bD} (hc:be P N own c=some (.cond o x y)):∃ c0 c1 c2,c=.cond c0 c1 c2/\bx c0=some o/\be P N own c1=some x/\be P N own c2=some y:=mE hc
theorem XX {c:Code} {id:Nat} {x:bD} (hc:be P N own c=some (.block id x)):∃ c1,c=.block id c1/\be P N own c1=some x:=mE hc
theorem ZO {c:Code} {x:bD} (hc:be P N own c=some (.loop x)):∃ c1,c=.loop c1/\be P N own c1=some x:=mE hc
theorem Li {c:Code} {ops:List ak} (hc:be P N own c=some (.region ops)):∃ id os,c=.region id os false/\bO P N (own id) os (List.range os.size)=some ops:=mE hc
theorem Po {c:Code} {qk:List (ak×Kd)} {ts:List ak} (hc:be P N own c=some (.dregion qk ts)):∃ id os los n,c=.region id os true/\bO P N (own id) os (List.range os.size)=some los/\HI os los n=true/\n<=los.length/\P.follows .mixedOrders=true/\qk.map (·.1)=los.take n/\ts=los.drop n/\Oj (kO os.toList []) qk=true:=mE hc
theorem gU {b:Frame} {a:Act} {k:List Item} {cs:List Frame} {w:World} {c:Code}:step P (lone (b.atR a (.code (.scope c)::k)) cs w)=.next (lone (b.atR a (.code c :: .inScope c::k)) cs w) :=
 step_lone_go (by simp [stepG,stepG.exec,Frame.atR])
theorem RT {b:Frame} {a:Act} {k:List Item} {cs:List Frame} {w:World} {c:Code}:step P (lone (b.atR a (.inScope c::k)) cs w)=.next (lone (b.atR a k) cs w) :=
 step_lone_go (by simp [stepG,stepG.exec,Frame.atR])
theorem Vz {F:Fence} {n:Nat} {a:Act} {w:World} {Q:Exit->Act->World->Prop} {c:Code} (h:c.wpIn F n P (Exit.noGoto Q) a w):(Code.scope c).wpIn F n P Q a w:=by
 intro b k cs hro hb hr;have h0:(lone (b.atR a (.code (.scope c)::k)) cs w).fenced P F:=fenced_calm hb hr rfl;obtain ⟨e,a₁,w₁,hq,harr⟩:=h b (.inScope c::k) cs hro hb hr;cases e with
 | normal=>exact ⟨.normal,a₁,w₁,hq,.head h0 gU (StepsIn.trans harr (.one (fenced_calm hb hr rfl) RT))⟩
 | exit id =>
   have hx:exitTo id (.inScope c::k)=exitTo id k:=by simp [exitTo]
   exact ⟨.exit id,a₁,w₁,hq,fun k' hk=>.head h0 gU (harr.1 k' (by rw [hx];exact hk)),
    fun hr' hk=>let ⟨k₁,h1,h2⟩:=harr.2 hr' (by rw [hx];exact hk);⟨k₁,h1,.head h0 gU h2⟩⟩
 | goto l=>exact hq.elim
 | ret=>exact ⟨_,a₁,w₁,hq,.of_steps (.one h0 gU) harr⟩
 | panic ch=>exact ⟨_,a₁,w₁,hq,.of_steps (.one h0 gU) harr⟩
 | outgrown=>exact ⟨_,a₁,w₁,hq,.of_steps (.one h0 gU) harr⟩
theorem aP (h:Q .normal T L):AW P N own .skip Q T L:=fun c hc r hr w0 S0 E a w hst=>by
 obtain rfl:=ZN hc;exact wpIn_skip ⟨w0,S0,E,T,L,.refl _ _,.refl E,h,hst⟩
theorem aQ {id:Nat} (h:Q (.exit id) T L):AW P N own (.exit id) Q T L:=fun c hc r hr w0 S0 E a w hst=>by
 obtain rfl:=ZP hc;exact wpIn_exit ⟨w0,S0,E,T,L,.refl _ _,.refl E,h,hst⟩
theorem bd (h:Q .ret T L):AW P N own .ret Q T L:=fun c hc r hr w0 S0 E a w hst=>by
 obtain rfl:=abA hc;exact wpIn_ret ⟨w0,S0,E,T,L,.refl _ _,.refl E,h,hst⟩
def Xe (K:Tm->List Blk->Prop) (Q:Exit->Tm->List Blk->Prop):Exit->Tm->List Blk->Prop
 | .normal,T,L=>K T L
 | e,T,L=>Q e T L
theorem aY {x y:bD} (h:AW P N own x (Xe (AW P N own y Q) Q) T L):AW P N own (.seq x y) Q T L:=fun c hc r hr w0 S0 E a w hst=>by
 obtain ⟨c1,c2,rfl,h1,h2⟩:=W3 hc;refine wpIn_seq (wpIn_mono (h c1 h1 r (fun e=>hr (by simp [bD.hasRF,e])) w0 S0 E a w hst) fun e a' w' ⟨w1,S1,E',T',L',b,g1,g2,g3⟩=>?_);cases e
 case normal=>exact wpIn_mono (g2 c2 h2 r (fun e=>hr (by simp [bD.hasRF,e])) w1 S1 E' a' w' g3) fun e a'' w'' ⟨w2,S2,E'',T'',L'',b2,k1,k2,k3⟩=>⟨w2,S2,E'',T'',L'',b.trans b2,g1.trans k1,k2,k3⟩
 all_goals exact ⟨w1,S1,E',T',L',b,g1,g2,g3⟩
theorem aI {x:Opd} {y z:bD} {b:Bool} (hx:evX T x=some (.bool b)) (ht:b=true->AW P N own y Q T L) (hf:b=false->AW P N own z Q T L):AW P N own (.cond x y z) Q T L:=fun c hc r hr w0 S0 E a w hst=>by
 obtain ⟨c0,c1,c2,rfl,h1,h2,h3⟩:=UP hc;have:=ah h1 hx hst.2.1;simp only [VR] at this;exact wpIn_cond_split this (fun e=>ht e c1 h2 r (fun e=>hr (by simp [bD.hasRF,e])) w0 S0 E a w hst) (fun e=>hf e c2 h3 r (fun e=>hr (by simp [bD.hasRF,e])) w0 S0 E a w hst)
def WB (id:Nat) (Q:Exit->Tm->List Blk->Prop):Exit->Tm->List Blk->Prop
 | .exit id',T,L=>if id'=id then Q .normal T L else Q (.exit id') T L
 | e,T,L=>Q e T L
theorem ap {x:Opd} {y z:bD} (hx:evX T x=some .anyb) (ht:AW P N own y Q T L) (hf:AW P N own z Q T L):AW P N own (.cond x y z) Q T L:=fun c hc r hr w0 S0 E a w hst=>by
 obtain ⟨c0,c1,c2,rfl,h0,h1,h2⟩:=UP hc;have hv:=ah h0 hx hst.2.1;simp only [VR] at hv;obtain ⟨b,hv⟩:=hv;exact wpIn_cond_split hv (fun _=>ht c1 h1 r (fun e=>hr (by simp [bD.hasRF,e])) w0 S0 E a w hst) (fun _=>hf c2 h2 r (fun e=>hr (by simp [bD.hasRF,e])) w0 S0 E a w hst)
theorem aE {id:Nat} {x:bD} (h:AW P N own x (WB id Q) T L):AW P N own (.block id x) Q T L:=fun c hc r hr w0 S0 E a w hst=>by
 obtain ⟨c1,rfl,h1⟩:=XX hc;refine wpIn_block (wpIn_mono (h c1 h1 r (fun e=>hr (by simp [bD.hasRF,e])) w0 S0 E a w hst) fun e a' w' ⟨w1,S1,E',T',L',b,g1,g2,g3⟩=>?_);cases e
 case exit i =>
  simp only [WB] at g2;simp only [Exit.inBlock];split at g2
  ·rename_i e;rw [if_pos e];exact ⟨w1,S1,E',T',L',b,g1,g2,g3⟩
  ·rename_i e;rw [if_neg e];exact ⟨w1,S1,E',T',L',b,g1,g2,g3⟩
 all_goals exact ⟨w1,S1,E',T',L',b,g1,g2,g3⟩
def T5 (Q:Exit->Tm->List Blk->Prop):Exit->Tm->List Blk->Prop
 | .goto _,_,_=>False
 | e,T,L=>Q e T L
theorem aaA:T5 Q .normal T L=Q .normal T L:=rfl
theorem aaB {i:Nat}:T5 Q (.exit i) T L=Q (.exit i) T L:=rfl
theorem aaz:T5 Q .ret T L=Q .ret T L:=rfl
attribute [push_cast] aaA aaB aaz
theorem H4 {x:bD} (h:AW P N own x (T5 Q) T L):AW P N own (.scope x) Q T L:=fun c hc r hr w0 S0 E a w hst=>by
 obtain ⟨c1,rfl,h1⟩:=mE hc;refine Vz (wpIn_mono (h c1 h1 r (fun e=>hr (by simp [bD.hasRF,e])) w0 S0 E a w hst) fun e a' w' ⟨w1,S1,E',T',L',b,g1,g2,g3⟩=>?_);cases e
 case goto l=>exact g2.elim
 all_goals exact ⟨w1,S1,E',T',L',b,g1,g2,g3⟩
theorem H5 (h:Q .normal T L):AW P N own .label Q T L:=fun c hc r hr w0 S0 E a w hst=>by
 obtain ⟨l,rfl⟩:=mE hc;exact wpIn_label ⟨w0,S0,E,T,L,.refl _ _,.refl E,h,hst⟩
theorem TH (p:Nat->Prop):∀ n,p n->∃ m,p m/\∀ k,p k->m<=k:=by
 intro n
 induction n using Nat.strongRecOn with
 | _ n ih =>
   intro hn;by_cases h:∃ k,k<n/\p k
   ·obtain ⟨k,h1,h2⟩:=h;exact ih k h1 h2
   ·refine ⟨n,hn,fun k hk=>?_⟩;rcases aer k n with h1|h1
    ·exact absurd ⟨k,h1,hk⟩ h
    ·exact h1
theorem St.draw {E:Env} {a:Act} {w:World} {T:Tm} {L:List Blk} (h:St w0 S0 N E T L a w) (n:Nat):St w0 S0 N E T L a { w with drawn:=n }:=⟨h.1.draw n,h.2⟩
theorem RS {qk:List (ak×Kd)} {ts:List ak} (h:AG P (jC P (Q .normal) ts) qk [L] [] T):AW P N own (.dregion qk ts) Q T L:=fun c hc r hr w0 S0 E a w hst=>by
 obtain ⟨id,os,los,n,rfl,h1,h2,h3,h4,h5,rfl,h6⟩:=Po hc;refine wpIn_region_any h4 ?_;have hn:qk.length=n:=by
  have:=congrArg List.length h5;simp at this;omega
 exact Vn (w0:=w0) (S0:=S0) (L:=L) (T:=T) (Q:=fun e a' w'=>∃ w1 S1 E' T' L',Bs w0 S0 w1 S1/\E.le E'/\Q e T' L'/\St w1 S1 N E' T' L' a' w') (K:=Q .normal) (E0:=E) h1 h2 (by rw [h5,agc]) hn h6 h (fun E' T' L' a' w' e1 e2 e3=>⟨w0,S0,E',T',L',.refl _ _,e1,e2,e3⟩) a _ E (.refl E) (hst.draw _)
def acx (mask:List Bool) (T:Tm):Bool:=(mask.zip T).all fun p=>p.1 || (ar (sel mask T) p.2.1).isNone
theorem Qs:∀ {mask:List Bool} {T:Tm} {t:Nat} {v:AV},(∀ p∈mask.zip T,p.1=true\/p.2.1≠t)->ar (sel mask T) t=some v->ar T t=some v
 | [],T,t,v,_,h=>by rwa [WP] at h
 | true::m,[],t,v,_,h=>by simp [sel,ar] at h
 | false::m,[],t,v,_,h=>by simp [sel,ar] at h
 | true::m,x::T,t,v,hm,h=>by
   obtain ⟨k,u⟩:=x;rw [ace] at h;simp only [ar] at h ⊢;split
   ·rename_i e;rw [if_pos e] at h;exact h
   ·rename_i e;rw [if_neg e] at h
    exact Qs (fun p hp=>hm p (by simp only [List.zip_cons_cons,aex];exact .inr hp)) h
 | false::m,x::T,t,v,hm,h=>by
   obtain ⟨k,u⟩:=x;rw [acf] at h;have hk:k≠t:=by
    rcases hm (false,(k,u)) (by simp) with h|h
    ·cases h
    ·exact h
   simp only [ar];rw [if_neg hk];exact Qs (fun p hp=>hm p (by simp only [List.zip_cons_cons,aex];exact .inr hp)) h
theorem Ib {mask:List Bool} {T:Tm} {t:Nat} {v:AV} (hb:acx mask T=true) (h:ar (sel mask T) t=some v):ar T t=some v :=
 Qs (fun p hp=>by
  have:=ael.1 hb p hp;rcases Bool.or_eq_true_iff.1 this with h1|h1
  ·exact .inl h1
  ·refine .inr fun e=>?_
   rw [e,h] at h1;cases h1) h
def RR (mask:List Bool) (K:Tm->List Blk->Prop) (T:Tm) (L:List Blk):Prop:=acx mask T=true/\K (sel mask T) L
theorem aK {mask:List Bool} {K:Tm->List Blk->Prop} {T:Tm} {L:List Blk} (h1:acx mask T=true) (h2:K (sel mask T) L):RR mask K T L:=⟨h1,h2⟩
def frB (ds:List Nat) (T:Tm):Bool:=ds.all fun d=>(ar T d).isNone
theorem aO {sops:List SOp} {mask:List Bool} (hf:(okS sops && frB (gds sops) T)=true) (h:SL P sops (RR mask (Q .normal)) T L):AW P N own (.sreg sops mask) Q T L:=fun c hc r hr w0 S0 E a w hst=>by
 obtain ⟨id,os,rfl,h1⟩:=Li hc;rw [aek] at hf;refine wpIn_region (DJ sops hf.1 h1 hst (fun d hd=>?_) h fun E' T' L' a' w' h2 h3 h4=>⟨w0,S0,E',sel mask T',L',.refl _ _,h2,h3.2,h4.weak (fun t v hv=>Ib h3.1 hv) rfl fun _ _ e=>.inr e⟩);have:=ael.1 hf.2 d hd;simpa using this
def adp (mask:List Bool) (K:Tm->List Blk->Prop) (L:List Blk) (T:Tm):Prop:=RR mask K T L
theorem ab3 {mask:List Bool} {K:Tm->List Blk->Prop} {T:Tm} {L:List Blk}:adp mask K L T=RR mask K T L:=rfl
theorem aA {sops:List SOp} {kds:List Kd} {mask:List Bool} (hf:(okG none [] [] sops && frB (gds sops) T && decide (kds.length<=(SOp.flatL sops).length))=true) (h:GL P L sops (adp mask (Q .normal) L) T):AW P N own (.sdreg sops kds mask) Q T L:=fun c hc r hr w0 S0 E a w hst=>by
 obtain ⟨id,os,los,n,rfl,h1,h2,h3,h4,h5,h6,_⟩:=Po hc;simp only [aek,decide_eq_true_eq] at hf;obtain ⟨⟨f1,f2⟩,f3⟩:=hf;have hlos:los=SOp.flatL sops:=by
  have e1:((SOp.flatL sops).zip kds).map (·.1)=(SOp.flatL sops).take kds.length:=by
   have key:∀ (l:List ak) (m:List Kd),(l.zip m).map (·.1)=l.take m.length:=by
    intro l
    induction l with
    | nil=>intro m;simp
    | cons o l ih=>intro m;cases m<;>simp [ih]
   exact key _ _
  rw [e1] at h5;rw [<- agc n los,<- h5,<- h6,agc]
 have hlen:los.length=os.size:=by simpa using (ur h1).1
 refine wpIn_region_any h4 ?_;have hdraw:HI os los los.length=true:=by
  simp only [HI,aek] at h2 ⊢;refine ⟨h2.1,?_⟩;simp only [Ws,ael,List.mem_range,ae6,decide_eq_true_eq];exact fun i hi=>.inl (by omega)
 have har:=Yw (P:=P) (L:=L) f1 (T:=T) (fun d hd=>by
  have:=ael.1 f2 d hd;simpa using this) h
 refine Vn (w0:=w0) (S0:=S0) (L:=L) (T:=T) (Q:=fun e a' w'=>∃ w1 S1 E' T' L',Bs w0 S0 w1 S1/\E.le E'/\Q e T' L'/\St w1 S1 N E' T' L' a' w') (E0:=E) (qk:=los.map fun o=>(o,.read 0 0)) (ts:=[]) h1 hdraw (by simp [afK,Function.comp_def]) (by simp) ?_ (K:=fun T1 L'=>L'=L/\∃ T',adp mask (Q .normal) L T'/\∀ t v,ar T' t=some v->ar T1 t=some v)
  ?_ (fun E' T' L' a' w' e1 ⟨e2,T2,e3,e4⟩ e5=>?_) a _ E (.refl E) (hst.draw _)
 ·have hno:∀ (l:List ak) (k:Nat),da (l.map fun o=>(o,Kd.read 0 0)) k=[]:=by
   intro l
   induction l with
   | nil=>intro k;rfl
   | cons o l ih=>intro k;simp only [aeG,da];exact ih _
  simp only [Oj,hno,afk,List.range_zero,agA,ae7,ael];intro p hp;obtain ⟨⟨o,kd⟩,i⟩:=p;have:kd=Kd.read 0 0:=by
   have:=List.fst_mem_of_mem_zipIdx hp;simp only [aey] at this;obtain ⟨o',_,e⟩:=this;cases e;rfl
  subst this;rfl
 ·rw [hlos];exact har
 ·subst e2;exact ⟨w0,S0,E',sel mask T2,_,.refl _ _,e1,e3.2,e5.weak (fun t v hv=>e4 t v (Ib e3.1 hv)) rfl fun _ _ e=>.inr e⟩
theorem aB {qk:List (ak×Kd)} {ts:List ak} {mask:List Bool} (h:AG P (jC P (RR mask (Q .normal)) ts) qk [L] [] T):AW P N own (.dregM qk ts mask) Q T L:=fun c hc r hr w0 S0 E a w hst=>by
 have:=RS (N:=N) (own:=own) (Q:=fun e T' L'=>e=.normal/\RR mask (Q .normal) T' L') (L:=L) (T:=T) (qk:=qk) (ts:=ts) (P:=P) ?_ c hc r hr w0 S0 E a w hst
 ·refine wpIn_mono this fun e a' w' ⟨w1,S1,E',T',L',b,g1,⟨g2,g3⟩,g4⟩=>?_
  subst g2;exact ⟨w1,S1,E',sel mask T',L',b,g1,g3.2,g4.weak (fun t v hv=>Ib g3.1 hv) rfl fun _ _ e=>.inr e⟩
 ·have e:(fun T' L'=>Exit.normal=Exit.normal/\RR mask (Q .normal) T' L')=RR mask (Q .normal):=by
   funext T' L';simp
  rw [e];exact h
theorem ax {ops:List ak} (h:jC P (Q .normal) ops T L):AW P N own (.region ops) Q T L:=fun c hc r hr w0 S0 E a w hst=>by
 obtain ⟨id,os,rfl,h1⟩:=Li hc;exact wpIn_region (LH _ _ h1 hst h fun E' T' L' a' w' h2 h3 h4=>⟨w0,S0,E',T',L',.refl _ _,h2,h3,h4⟩)
end
inductive WD where
 | tmp (t:Nat)
 | cell (agg:Bool) (sz t:Nat)
 deriving Inhabited
structure aV where
 ntmps:Nat
 code:bD
 res:List WD
 deriving Inhabited
def aV.raw (f:aV):aV:=⟨f.ntmps,f.code.raw,f.res⟩
def Le (P:Program):List ResultVar->Option (List WD)
 | []=>some []
 | .tmp t::l=>(Le P l).map (.tmp t::·)
 | .cell a t::l=>match gz P t,cv P t,Le P l with
   | some g,some s,some m=>some (.cell g s a::m)
   | _,_,_=>none
def aX (P:Program) (own:Nat->Nat->Nat) (f:FuncId):Option aV :=
 match P.funcs[f]? with
 | none=>none
 | some fn=>if (fn.name == "runtime.NumGoroutine")=true then none else match fn.body with
   | none=>none
   | some c=>match be P fn.ntmps own c,Le P fn.results.toList with
     | some lc,some rs=>some ⟨fn.ntmps,lc,rs⟩
     | _,_=>none
def Qw (T:Tm) (L:List Blk):List WD->Option (Prop×List AV)
 | []=>some (True,[])
 | .tmp t::l=>match ar T t,Qw T L l with
   | some v,some (c,m)=>some (c,v::m)
   | _,_=>none
 | .cell g sz t::l=>match (ar T t).bind (row L),Qw T L l with
   | some (r,off),some (c,m)=>if g then some (off+sz<=r.length/\c,.agg ((r.drop off).take sz)::m) else some (off<r.length/\c,r.getD off .undef::m)
   | _,_=>none
def Ur:List AV->AV
 | [v]=>v
 | l=>.tup l
def aq (i:Nat):List AV->Tm
 | []=>[]
 | a::l=>(i,a)::aq (i+1) l
section
variable {P:Program} {w0:World} {S0:SB} {N:Nat} {E:Env} {L:List Blk} {w:World} {T:Tm} {a:Act}
theorem L6:∀ {rs:List ResultVar} {ls:List WD} {c:Prop} {m:List AV},Le P rs=some ls->Qw T L ls=some (c,m)->c->Rel w0 S0 E L w->TR E T a ->
  ∃ vs,VRL E m vs/\(rs.mapM (m:=Sem) fun
   | .tmp t=>pure (a.tmps.getD t undef)
   | .cell x t=>do loadVar t (<- asAddr (a.tmps.getD x undef))).run P w=.ok vs w
 | [],ls,c,m,hl,he,hc,hR,hT=>by
   simp [Le] at hl;subst hl;simp [Qw] at he;obtain ⟨_,rfl⟩:=he;exact ⟨[],by simp [VRL],by simp⟩
 | .tmp t::rs,ls,c,m,hl,he,hc,hR,hT=>by
   simp only [Le,aeI] at hl;obtain ⟨ls',h1,rfl⟩:=hl;simp only [Qw] at he;split at he<;>try cases he
   rename_i v c' m' h2 h3
   obtain ⟨vs,h4,h5⟩:=L6 h1 h3 hc hR hT;exact ⟨_::vs,⟨_,_,rfl,hT _ _ h2,h4⟩,by simp only [agf,aen,aeK,aep,h5]⟩
 | .cell x t::rs,ls,c,m,hl,he,hc,hR,hT=>by
   simp only [Le] at hl;split at hl<;>try cases hl
   rename_i g s ls' hg hs h1
   simp only [Qw] at he;split at he<;>try cases he
   rename_i r off c' m' h2 h3
   rcases h6:ar T x with _|u
   ·simp [h6] at h2
   ·simp only [h6,afs] at h2;have hv:=hT _ _ h6;obtain ⟨b,o,hp,hcells⟩:=Ob hR h2 hv;have hAddr:(asAddr (a.tmps.getD x undef)).run P w=.ok ⟨b,o+off,none⟩ w:=by rw [hp];rfl
    cases g
    ·simp only [aez,if_false,aei,aeq] at he;obtain ⟨rfl,rfl⟩:=he;obtain ⟨vs,h4,h5⟩:=L6 h1 h3 hc.2 hR hT;obtain ⟨y,h7,h8⟩:=hcells off r[off] (aev hc.1);refine ⟨y::vs,⟨_,_,rfl,by rw [aew,aev hc.1];exact h8,h4⟩,?_⟩;have hload:(loadVar t ⟨b,o+off,none⟩).run P w=.ok y w:=by simp [loadVar,tW hg,h7]
     simp only [agf,aen,hAddr,aep,hload,h5,aeK]
    ·simp only [if_true,aei,aeq] at he;obtain ⟨rfl,rfl⟩:=he;obtain ⟨vs,h4,h5⟩:=L6 h1 h3 hc.2 hR hT;have hlen:((r.drop off).take s).length=s:=by simp;omega
     obtain ⟨cs,h7,h8⟩:=Pn (P:=P) (w:=w) (b:=b) (o:=o+off) (l:=(r.drop off).take s) hg (by rw [hlen];exact hs) (fun j a ha=>by
      have hj:j<s:=by have:=(aeh.1 ha).1;omega
      rw [ae1 hj,aeZ] at ha;have:=hcells _ _ ha
      rwa [<- aff] at this)
     refine ⟨.agg ⟨cs⟩::vs,⟨_,_,rfl,⟨cs,rfl,h7⟩,h4⟩,?_⟩;simp only [agf,aen,hAddr,aep,h8,h5,aeK]
theorem Zb {m:List AV} {vs:List Value} (h:VRL E m vs):VR E (Ur m) (if h:vs.length=1 then vs[0] else .tuple ⟨vs⟩):=by
 have hl:=h.length;by_cases h1:vs.length=1
 ·rw [dif_pos h1]
  match m,vs,h,hl,h1 with
  | [x],[y],h,_,_ =>
    simp only [VRL,List.cons.injEq] at h;obtain ⟨_,_,⟨rfl,rfl⟩,h2,_⟩:=h;exact h2
 ·rw [dif_neg h1];have:Ur m=.tup m:=by
   match m,hl with
   | [],_=>rfl
   | [x],hl=>simp at hl;exact absurd hl h1
   | _::_::_,_=>rfl
  rw [this];exact ⟨vs,rfl,h⟩
theorem QS:∀ {args:List AV} {i t:Nat} {v:AV},ar (aq i args) t=some v->i<=t/\args[t - i]?=some v
 | [],i,t,v,h=>by simp [aq,ar] at h
 | x::args,i,t,v,h=>by
   simp only [aq,ar] at h;split at h
   ·rename_i e;subst e;simp at h;subst h;simp
   ·rename_i e
    have:=QS h;refine ⟨by omega,?_⟩;rw [show t - i=(t - (i+1))+1 by omega];simpa using this.2
def Fin (L0:List Blk) (r:AV) (L:List Blk) (Q:AV->List Blk->Prop):Prop :=
 ∀ (w0:World) (S0:SB) (E0 E:Env) (w:World) (v:Value),E0.le E->(∀ i,L0.length<=i->E0.loc i=none/\E0.tok i=none)->(∀ k∈L0,k.refs (fun i=>decide (i<L0.length))=true) ->
  Rel w0 S0 E L w->VR E r v->∃ E' av L',E0.le E'/\Q av L'/\VR E' av v/\Rel w0 S0 E' L' w
mutual
theorem VR.refs {n:Nat} (hn:∀ i,n<=i->E.loc i=none) (ht:∀ i,n<=i->E.tok i=none):∀ (a:AV) (v:Value),VR E a v->a.refs (fun i=>decide (i<n))=true
 | .undef,_,_=>rfl
 | .bool _,_,_=>rfl
 | .anyb,_,_=>rfl
 | .int _ _,_,_=>rfl
 | .str _,_,_=>rfl
 | .nilptr,_,_=>rfl
 | .gptr _ _,_,_=>rfl
 | .ptr i off,v,r=>by
   simp only [VR] at r;obtain ⟨c,h,_⟩:=r;simp only [AV.refs,decide_eq_true_eq];rcases aer i n with h1|h1
   ·exact h1
   ·rw [hn i h1] at h;cases h
 | .iptr l off,v,r=>by
   simp only [VR] at r;obtain ⟨b,o,_,h⟩:=r;exact VRC.refs hn ht l b o h
 | .nilsl,_,_=>rfl
 | .sl l m cap,v,r=>by
   simp only [VR] at r;obtain ⟨p,c,_,_,_,h⟩:=r;rcases h with ⟨_,_,_,rfl⟩|⟨b,o,_,h⟩
   ·rfl
   ·exact VRC.refs hn ht l b o h
 | .gsl l m i sz,v,r=>by
   simp only [VR] at r;obtain ⟨p,c,_,_,_,h,t,h2,_⟩:=r;simp only [AV.refs,decide_eq_true_eq,aek];refine ⟨?_,?_⟩
   ·rcases aer i n with h1|h1
    ·exact h1
    ·rw [ht i h1] at h2;cases h2
   ·rcases h with ⟨_,_,_,rfl⟩|⟨b,o,_,h⟩
    ·rfl
    ·exact VRC.refs hn ht l b o h
 | .lsl i off len cap sz,v,r=>by
   simp only [VR] at r;obtain ⟨c,rc,d,h,_⟩:=r;simp only [AV.refs,decide_eq_true_eq];rcases aer i n with h1|h1
   ·exact h1
   ·rw [hn i h1] at h;cases h
 | .nilmap,_,_=>rfl
 | .lmap i,v,r=>by
   simp only [VR] at r;obtain ⟨c,h,_⟩:=r;simp only [AV.refs,decide_eq_true_eq];rcases aer i n with h1|h1
   ·exact h1
   ·rw [hn i h1] at h;cases h
 | .yld i,v,r=>by
   simp only [VR] at r;obtain ⟨c,h,_⟩:=r;simp only [AV.refs,decide_eq_true_eq];rcases aer i n with h1|h1
   ·exact h1
   ·rw [hn i h1] at h;cases h
 | .func f caps,v,r=>by
   simp only [VR] at r;obtain ⟨vs,_,h⟩:=r;exact VRL.refs hn ht caps vs h
 | .nilfunc,_,_=>rfl
 | .nilif,_,_=>rfl
 | .iface t x,v,r=>by
   simp only [VR] at r;obtain ⟨y,_,h⟩:=r;exact VR.refs hn ht x y h
 | .agg l,v,r=>by
   simp only [VR] at r;obtain ⟨vs,_,h⟩:=r;exact VRL.refs hn ht l vs h
 | .tup l,v,r=>by
   simp only [VR] at r;obtain ⟨vs,_,h⟩:=r;exact VRL.refs hn ht l vs h
theorem VRL.refs {n:Nat} (hn:∀ i,n<=i->E.loc i=none) (ht:∀ i,n<=i->E.tok i=none):∀ (l:List AV) (vs:List Value),VRL E l vs->AV.refsL (fun i=>decide (i<n)) l=true
 | [],_,_=>rfl
 | a::l,vs,r=>by
   simp only [VRL] at r;obtain ⟨x,xs,_,h1,h2⟩:=r;simp only [AV.refsL,aek];exact ⟨VR.refs hn ht a x h1,VRL.refs hn ht l xs h2⟩
theorem VRC.refs {n:Nat} (hn:∀ i,n<=i->E.loc i=none) (ht:∀ i,n<=i->E.tok i=none):∀ (l:List AV) (b o:Nat),VRC E l b o->AV.refsL (fun i=>decide (i<n)) l=true
 | [],_,_,_=>rfl
 | a::l,b,o,r=>by
   simp only [VRC] at r;obtain ⟨⟨x,_,h1⟩,h2⟩:=r;simp only [AV.refsL,aek];exact ⟨VR.refs hn ht a x h1,VRC.refs hn ht l b (o+1) h2⟩
end
theorem ay.refs {n:Nat} (hn:∀ i,n<=i->E.loc i=none) (ht:∀ i,n<=i->E.tok i=none):∀ {l:List (AV×AV×Nat)} {es:List MapEntry},ay E l es->(l.all fun e=>e.1.refs (fun i=>decide (i<n)) && e.2.1.refs (fun i=>decide (i<n)))=true
 | [],_,_=>rfl
 | (k,x,b)::l,es,r=>by
   simp only [ay] at r;obtain ⟨e,t,_,h1,h2,_,h3⟩:=r;simp only [afH,aek];exact ⟨⟨VR.refs hn ht _ _ h1,VR.refs hn ht _ _ h2⟩,ay.refs hn ht h3⟩
theorem Rel.refs (h:Rel w0 S0 E L w):∀ k∈L,k.refs (fun i=>decide (i<L.length))=true:=fun k hk=>by
 obtain ⟨i,hi⟩:=af1.1 hk;have hb:=h.blk i k hi;cases k<;>simp only [bp] at hb
 ·rfl
 ·obtain ⟨c,cs,ty,fr,_,_,_,_,h5,_⟩:=hb;refine AV.refsL_iff.2 fun a ha=>?_
  obtain ⟨j,hj⟩:=af1.1 ha;obtain ⟨v,_,hv⟩:=h5 j a hj;exact VR.refs h.fresh h.tkfresh _ _ hv
 ·obtain ⟨c,rs,_,_,h3⟩:=hb;exact ay.refs h.fresh h.tkfresh h3
 ·rename_i m _ _ _
  obtain ⟨c,q,_,_,_,h4⟩:=hb;cases m with
  | none=>rfl
  | some j =>
    obtain ⟨d,g1,_⟩:=h4;simp only [Blk.refs,decide_eq_true_eq];rcases aer j L.length with h5|h5
    ·exact h5
    ·rw [h.fresh j h5] at g1;cases g1
 ·rfl
 ·obtain ⟨c,cs,ty,fr,_,_,_,_,h5,_⟩:=hb;refine AV.refsL_iff.2 fun a ha=>?_
  obtain ⟨j,hj⟩:=af1.1 ha;obtain ⟨v,_,hv⟩:=h5 j a hj;exact VR.refs h.fresh h.tkfresh _ _ hv
 ·rfl
 ·obtain ⟨c,D,tm,_,_,_,_,h5⟩:=hb;simp only [Blk.refs,ael];rintro ⟨t,u⟩ _;rcases hl:ar _ t with _|v
  ·rfl
  ·simpa using VR.refs h.fresh h.tkfresh _ _ (h5 t v hl)
def adA (res:List WD) (L0:List Blk) (Q:AV->List Blk->Prop) (e:Exit) (T:Tm) (L':List Blk):Prop :=
 (e=.normal\/e=.ret)/\∃ c rs,Qw T L' res=some (c,rs)/\c/\Fin L0 (Ur rs) L' Q
theorem Rel.shut {w0 w:World} {S0:SB} {E:Env} {L:List Blk} (h:Rel w0 S0 E L w) {D:Nat} (hD:w0.heap.size<=D) (hno:¬ T6 E L D) (ho:w.heap[D]?=some (.deferred (some []))):Rel w0 S0 E L (w.putObj D (.deferred none)):=by
 have same:∀ k,k≠D->(w.putObj D (.deferred none)).heap[k]?=w.heap[k]?:=fun k hk=>World.putObj_heap_other hk
 refine ⟨fun b o v hv=>?_,fun i k hk=>?_,h.fresh,h.own,h.inj,h.tkfresh,h.tkown,h.tkloc,h.tkinj,fun k hk hs=>?_,by simpa using h.size,h.os,h.tape,h.output,h.glob,fun p hp hne=>?_⟩
 ·have hv':=h.mem b o v hv;have hb:b≠D:=fun e=>by
   subst e;simp [World.cell?,ho] at hv'
  have:=same b hb;simp only [World.cell?] at hv' ⊢;rw [this];exact hv'
 ·cases hl:k.live
  ·refine bp.still hl rfl (fun t c n sz e ht hc=>?_) (h.blk i k hk);exact same _ fun e2=>hno (.inr ⟨i,n,sz,t,c,e ▸ hk,ht,hc,e2⟩)
  ·refine bp.worldL hl (fun c hc=>?_) (h.blk i k hk);exact same _ fun e2=>hno (.inl ⟨i,k,c,hk,hl,hc,e2⟩)
 ·rw [same k (by omega)];exact h.frame k hk hs
 ·obtain ⟨cs,ty,fr,h1,h2⟩:=h.gsz p hp hne;refine ⟨cs,ty,fr,?_,h2⟩;rw [same _ (fun e=>by rw [e,ho] at h1;cases h1)];exact h1
theorem Sg {fn:Func} {tmps:Array Value} {R:Ending->World->Prop} {wE:World} {SE:SB} {E:Env} {L:List Blk} (hR:∀ w,Rel wE SE E L w->∃ v,(results fn tmps).run P w=.ok v w/\R (.returned v) w) :
  ∀ (ds:List Deferred) (w:World),Rel wE SE E L w->ds.Nodup->(∀ d∈ds,∃ D,d=mkD D/\wE.heap.size<=D/\¬ T6 E L D/\w.heap[D]?=some (.deferred (some [])))->LeavesInM (fL none) 0 P fn tmps R ds .returning w
 | [],w,h,_,_=>hR w h
 | d::ds,w,h,hn,hd=>by
   obtain ⟨D,rfl,h1,h2,h3⟩:=hd _ List.mem_cons_self;obtain ⟨n1,n2⟩:=af3.1 hn;refine ⟨fun e=>(by cases e),.inl ⟨D,_,rfl,run_takeDeferred h3,Sg hR ds _ (h.shut h1 h2 h3) n2 fun d hd'=>?_⟩⟩;obtain ⟨D',rfl,k1,k2,k3⟩:=hd d (af0 _ hd');refine ⟨D',rfl,k1,k2,?_⟩;rw [World.putObj_heap_other fun e=>n1 (by subst e;exact hd')];exact k3
theorem af {own:Nat->Nat->Nat} {f:FuncId} {lf:aV} (h:aX P own f=some lf.raw) {args:List AV} {L:List Blk} {Q:AV->List Blk->Prop} (hlen:args.length<=lf.ntmps)
  (hb:AW P lf.ntmps own lf.code (adA lf.res L Q) (aq 0 args) L):ae P f args L Q:=by
 intro w0 S0 E w vs hR hv;obtain ⟨nt,code,rs0⟩:=lf;simp only [aV.raw] at h hlen hb;unfold aX at h;split at h
 ·cases h
 rename_i fn hfn
 split at h
 ·cases h
 rename_i hname
 split at h
 ·cases h
 rename_i c hc
 split at h<;>try cases h
 rename_i lc rs hlc hrs
 refine .inl ⟨?_,?_⟩
 ·have:(fn.name == "runtime.NumGoroutine")=false:=by simpa using hname
  simp only [callFunc,aen,run_program,aep,hfn,this,hc,Option.isNone_some,aez,if_false,aeK]
 ·refine (callsIn_wide (n:=0)).1 (callsIn_of_wp_marks (F:=fL none) hfn hc trivial ?_);have hvl:=hv.length;have hst:St w ⟨T6 E L,w.heap.size⟩ fn.ntmps E (aq 0 args) L { tmps:=(⟨vs⟩:Array Value)++Array.replicate (fn.ntmps - vs.length) undef,defers:=[] } w:=by
   refine ⟨hR.enter _,fun t x hx=>?_,by simp;omega,WC.nil (aeg _)⟩;obtain ⟨_,h1⟩:=QS hx;simp only [Nat.sub_zero] at h1;obtain ⟨y,h2,h3⟩:=hv.get h1;have hlt:t<vs.length:=(aeh.1 h2).1;rw [afb,agU (by simpa using hlt)];simpa [h2] using h3
  refine wpIn_mono (hb c hlc none (fun _=>rfl) w _ E _ w hst) fun e a' w' ⟨w1,S1,E',T',L',b,g1,⟨g2,c',rs',g3,g4,g5⟩,g6⟩=>?_
  have key:LeavesInM (fL none) 0 P fn a'.tmps (fun e w'=>∃ E' v av L',e=.returned v/\E.le E'/\Q av L'/\VR E' av v/\Rel w0 S0 E' L' w') a'.defers .returning w':=by
   refine Sg (wE:=w) (SE:=⟨T6 E L,w.heap.size⟩) (E:=E') (L:=L') (fun w2 hR2=>?_) _ _ (b.rel g6.1) g6.2.2.2.2.1 fun d hd=>?_
   ·obtain ⟨us,k1,k2⟩:=L6 hrs g3 g4 hR2 g6.2.1;obtain ⟨E'',av,L'',k3,k4,k5,k6⟩:=g5 w0 S0 E E' w2 _ g1 (fun i hi=>⟨hR.fresh i hi,hR.tkfresh i hi⟩) hR.refs (hR.back hR2) (Zb k1);have hres:(results fn a'.tmps).run P w2=.ok (if h:us.length=1 then us[0] else .tuple ⟨us⟩) w2:=by
     unfold results;rw [Array.mapM_eq_mapM_toList];simp only [aen,Sem.run_map];refine (congrArg (fun r=>(Result.andThen r fun x w=>Result.ok x.toArray w).andThen _) k2).trans ?_;simp
    exact ⟨_,hres,E'',_,av,L'',rfl,k3,k4,k5,k6⟩
   ·obtain ⟨D,h1,h0,h2,h3,h4⟩:=g6.2.2.2.2.2 d hd;refine ⟨D,h1,by rw [b.low] at h0;exact h0,fun ho=>?_,?_⟩
    ·rcases g6.1.ownSub D ho with h5|h5
     ·exact h3 h5
     ·omega
    ·rw [g6.1.frame D h2 h3];exact h4
  rcases g2 with rfl|rfl<;>exact key
theorem ac {L0 L:List Blk} {r:AV} {Q:AV->List Blk->Prop} (h:Q r L):Fin L0 r L Q:=fun w0 S0 E0 E w v h0 _ _ hR hv=>⟨E,r,L,h0,h,hv,hR⟩
theorem Qv {E0 E:Env} {n m:Nat} (h0:E0.le E) (hn:∀ i,n<=i->E0.loc i=none/\E0.tok i=none) (hm:n<=m) (g:Nat->Nat) (hg:∀ i,i<n->g i=i):E0.le (E.res m g):=by
 have lt:∀ i,(E0.loc i≠none\/E0.tok i≠none)->i<n:=fun i hi=>by
  rcases aer i n with h1|h1
  ·exact h1
  ·have:=hn i h1;simp [this.1,this.2] at hi
 refine ⟨fun b o x hx=>h0.mem b o x hx,fun i c hc=>?_,fun i t ht=>?_⟩
 ·have hi:=lt i (.inl (by simp [hc]));rw [Env.res_loc (by omega),hg i hi];exact h0.loc i c hc
 ·have hi:=lt i (.inr (by simp [ht]));rw [Env.res_tok (by omega),hg i hi];exact h0.tok i t ht
theorem aaH {L0 L1 L2:List Blk} {r:AV} {Q:AV->List Blk->Prop} (hl:L1.length=L0.length) (hk:(∀ k∈L0,k.refs (fun i=>decide (i<L0.length))=true)->∀ k∈L1,k.refs (fun i=>decide (i<L0.length))=true) (hr:r.refs (fun i=>decide (i<L0.length))=true)
  (h:Q r L1):Fin L0 r (L1++L2) Q:=fun w0 S0 E0 E w v h0 hn hw hR hv=>by
 have hcut:=hR.cut (by rw [hl];exact hk hw);refine ⟨E.res L1.length id,r,L1,Qv h0 hn (by omega) id (fun _ _=>rfl),h,VR.cut (E:=E) (E':=E.res L1.length id) (p:=fun i=>decide (i<L0.length)) (fun _ _ _ x=>x) (fun i c hi hc=>?_) (fun i t hi ht=>?_) r v hr hv,hcut⟩
 ·rw [Env.res_loc (by have : i < L0.length := by simpa using hi
                      omega)];exact hc
 ·rw [Env.res_tok (by have : i < L0.length := by simpa using hi
                      omega)];exact ht
theorem aZ {L0 L:List Blk} {r:AV} {Q:AV->List Blk->Prop} (h:Fin L0 r.frz L Q):Fin L0 r L Q:=fun w0 S0 E0 E w v h0 hn hw hR hv =>
 h w0 S0 E0 E w v h0 hn hw hR (VR.frz _ _ hv)
theorem aaM {res:List WD} {L0 L':List Blk} {T:Tm} {Q:AV->List Blk->Prop} {c:Prop} {rs:List AV} (h:Qw T L' res=some (c,rs)) (hc:c) (hf:Fin L0 (Ur rs) L' Q):adA res L0 Q .ret T L':=⟨.inr rfl,c,rs,h,hc,hf⟩
theorem ab {L0 L2:List Blk} {r:AV} {Q:AV->List Blk->Prop} (hr:r.refs (fun i=>decide (i<L0.length))=true) (h:Q r L0):Fin L0 r (L0++L2) Q :=
 aaH rfl (fun h=>h) hr h
mutual
def AV.snap (i:Nat) (l:List AV):AV->AV
 | .lsl j off n cap s=>if j=i then .sl ((l.drop off).take (n * s)) n cap else .lsl j off n cap s
 | .agg xs=>.agg (AV.snapL i l xs)
 | .tup xs=>.tup (AV.snapL i l xs)
 | a=>a
def AV.snapL (i:Nat) (l:List AV):List AV->List AV
 | []=>[]
 | a::xs=>AV.snap i l a::AV.snapL i l xs
end
mutual
theorem VR.snap {i:Nat} {l:List AV} {c:Loc} (hc:E.loc i=some c) (hl:VRC E l c.blk c.off):∀ (a:AV) (v:Value),VR E a v->VR E (a.snap i l) v
 | .lsl j off n cap s,v,r=>by
   simp only [AV.snap];split
   ·rename_i e;subst e
    simp only [VR] at r ⊢;obtain ⟨c',rc,d,h1,rfl,h2,h3,h4,h5⟩:=r;rw [hc] at h1;cases h1;refine ⟨_,rc,rfl,h3,h4,.inr ⟨c.blk,d,rfl,?_⟩⟩;rcases afC n with hn|hn
    ·subst hn;simp [VRC]
    ·rw [h2 (by omega)];exact (hl.drop off).take _
   ·exact r
 | .agg xs,v,r=>by
   simp only [AV.snap,VR] at r ⊢;obtain ⟨vs,h1,h2⟩:=r;exact ⟨vs,h1,VRL.snap hc hl xs vs h2⟩
 | .tup xs,v,r=>by
   simp only [AV.snap,VR] at r ⊢;obtain ⟨vs,h1,h2⟩:=r;exact ⟨vs,h1,VRL.snap hc hl xs vs h2⟩
 | .undef,_,r=>r
 | .bool _,_,r=>r
 | .anyb,_,r=>r
 | .int _ _,_,r=>r
 | .str _,_,r=>r
 | .nilptr,_,r=>r
 | .gptr _ _,_,r=>r
 | .ptr _ _,_,r=>r
 | .iptr _ _,_,r=>r
 | .nilsl,_,r=>r
 | .sl _ _ _,_,r=>r
 | .gsl _ _ _ _,_,r=>r
 | .nilmap,_,r=>r
 | .lmap _,_,r=>r
 | .yld _,_,r=>r
 | .func _ _,_,r=>r
 | .nilfunc,_,r=>r
 | .nilif,_,r=>r
 | .iface _ _,_,r=>r
theorem VRL.snap {i:Nat} {l:List AV} {c:Loc} (hc:E.loc i=some c) (hl:VRC E l c.blk c.off):∀ (xs:List AV) (vs:List Value),VRL E xs vs->VRL E (AV.snapL i l xs) vs
 | [],_,r=>r
 | a::xs,vs,r=>by
   simp only [AV.snapL,VRL] at r ⊢;obtain ⟨x,ys,h1,h2,h3⟩:=r;exact ⟨x,ys,h1,VR.snap hc hl a x h2,VRL.snap hc hl xs ys h3⟩
end
theorem N2 {L0 L:List Blk} {r:AV} {Q:AV->List Blk->Prop} {i:Nat} {l:List AV} (hi:L[i]?=some (.cells l)) (h:Fin L0 (r.snap i l) (L.set i .dead) Q):Fin L0 r L Q:=fun w0 S0 E0 E w v h0 hn hw hR hv=>by
 obtain ⟨c,cs,ty,fr,h1,_⟩:=hR.blk i _ hi;obtain ⟨E',g1,g2,g3,g4⟩:=hR.snap hi h1;exact h w0 S0 E0 E' w v (h0.trans g1) hn hw g2 (VR.snap (by rw [g4];exact h1) g3 _ _ (VR.mono g1 _ _ hv))
theorem T7 {L0 L2:List Blk} {r:AV} {Q:AV->List Blk->Prop} (k:Nat) (b:Blk) (hlv:b.live=true) (hk:L0.length<=k) (hL:(L0++L2)[k]?=some b) (hr:r.refs (fun i=>decide (i<L0.length) || decide (i=k))=true)
  (hb:b.refs (fun i=>decide (i<L0.length))=true)
  (h:Q (r.ren fun i=>if i=k then L0.length else i) (L0++[b])):Fin L0 r (L0++L2) Q:=fun w0 S0 E0 E w v h0 hn hw hR hv=>by
 have lenL:(L0++[b]).length=L0.length+1:=by simp
 have hg:∀ i,i<L0.length->(fun i=>if i<L0.length then i else k) i=i:=fun i hi=>if_pos hi
 have hloc:∀ i c,(decide (i<L0.length) || decide (i=k))=true->E.loc i=some c->(E.res (L0++[b]).length (fun i=>if i<L0.length then i else k)).loc (if i=k then L0.length else i)=some c:=by
  intro i c hi hc;by_cases e:i=k
  ·subst e;rw [if_pos rfl,Env.res_loc (by omega),if_neg (by omega)];exact hc
  ·simp only [e,decide_false,af4,decide_eq_true_eq] at hi;rw [if_neg e,Env.res_loc (by omega),if_pos hi];exact hc
 have htok:∀ i c,(decide (i<L0.length) || decide (i=k))=true->E.tok i=some c->(E.res (L0++[b]).length (fun i=>if i<L0.length then i else k)).tok (if i=k then L0.length else i)=some c:=by
  intro i c hi hc;by_cases e:i=k
  ·subst e;rw [if_pos rfl,Env.res_tok (by omega),if_neg (by omega)];exact hc
  ·simp only [e,decide_false,af4,decide_eq_true_eq] at hi;rw [if_neg e,Env.res_tok (by omega),if_pos hi];exact hc
 have low:∀ (i:Nat) (c:Blk),(L0++[b])[i]?=some c->(i<L0.length/\L0[i]?=some c)\/(i=L0.length/\c=b):=fun i c hc=>by
  rw [afg] at hc;split at hc
  ·rename_i hi;exact .inl ⟨hi,hc⟩
  ·have hi':i=L0.length:=by
    rcases aer (i - L0.length) 1 with h1|h1
    ·omega
    ·rw [afm (by simpa using h1)] at hc;cases hc
   subst hi';simp at hc;exact .inr ⟨rfl,hc.symm⟩
 have hren:=hR.renum (L':=L0++[b]) (fun i=>if i<L0.length then i else k) (fun i j hi hj e=>by
  rw [lenL] at hi hj;split at e<;>split at e<;>omega) (fun i n sz hi=>by
  rcases low i _ hi with ⟨h1,h2⟩|⟨h1,h2⟩
  ·rw [if_pos h1,aem h1];exact h2
  ·subst h2;simp [Blk.live] at hlv) (fun i c hc hlive=>by
  rcases low i _ hc with ⟨h1,h2⟩|⟨h1,h2⟩
  ·have h3:(L0++L2)[i]?=some c:=by rw [aem h1];exact h2
   refine ⟨c,by rw [if_pos h1];exact h3,hlive,?_⟩;refine bp.cut (E:=E) (E':=E.res (L0++[b]).length (fun i=>if i<L0.length then i else k)) (p:=fun i=>decide (i<L0.length)) (fun _ _ _ x=>x) (fun j c hj hc=>?_) (fun j c hj hc=>?_) (fun c hc=>?_) hlive (hw c (aeQ h2)) (hR.blk i c h3)
   ·have hj:j<L0.length:=by simpa using hj
    rw [Env.res_loc (by omega),if_pos hj];exact hc
   ·have hj:j<L0.length:=by simpa using hj
    rw [Env.res_tok (by omega),if_pos hj];exact hc
   ·rw [Env.res_loc (by omega),if_pos h1];exact hc
  ·subst h1;subst h2;refine ⟨c,by simpa using hL,hlive,?_⟩;have hB:=hR.blk k _ hL;have hlk:∀ d,E.loc k=some d->(E.res (L0++[c]).length (fun i=>if i<L0.length then i else k)).loc L0.length=some d:=fun d hd=>by
    have:=hloc k d (by simp) hd
    rwa [if_pos rfl] at this
   have cutv:∀ x v,x.refs (fun i=>decide (i<L0.length))=true->VR E x v->VR (E.res (L0++[c]).length (fun i=>if i<L0.length then i else k)) x v:=fun x v hx hv=>by
    refine VR.cut (E:=E) (E':=E.res (L0++[c]).length (fun i=>if i<L0.length then i else k)) (p:=fun i=>decide (i<L0.length)) (fun _ _ _ x=>x) (fun j d hj hd=>?_) (fun j d hj hd=>?_) x v hx hv
    ·have hj:j<L0.length:=by simpa using hj
     rw [Env.res_loc (by omega),if_pos hj];exact hd
    ·have hj:j<L0.length:=by simpa using hj
     rw [Env.res_tok (by omega),if_pos hj];exact hd
   cases c<;>simp only [Blk.live,aez] at hlive<;>simp only [bp,Blk.refs] at hB hb ⊢
   ·obtain ⟨d,cs,ty,fr,g1,g2,g3,g4,g5,g6⟩:=hB;exact ⟨d,cs,ty,fr,hlk d g1,g2,g3,g4,fun j a ha=>let ⟨x,q1,q2⟩:=g5 j a ha;⟨x,q1,cutv a x (AV.refsL_iff.1 hb a (aeQ ha)) q2⟩,g6⟩
   ·obtain ⟨d,rs,g1,g2,g3⟩:=hB;refine ⟨d,rs,hlk d g1,g2,?_⟩;refine ay.cut (E:=E) (E':=E.res (L0++[_]).length (fun i=>if i<L0.length then i else k)) (p:=fun i=>decide (i<L0.length)) (fun _ _ _ x=>x) (fun j d hj hd=>?_) (fun j d hj hd=>?_) hb g3
    ·have hj:j<L0.length:=by simpa using hj
     rw [Env.res_loc (by omega),if_pos hj];exact hd
    ·have hj:j<L0.length:=by simpa using hj
     rw [Env.res_tok (by omega),if_pos hj];exact hd
   ·rename_i m _ _ _
    obtain ⟨d,q,g1,g2,g3,g4⟩:=hB;refine ⟨d,q,hlk d g1,g2,g3,?_⟩;cases m with
    | none=>exact g4
    | some j =>
      obtain ⟨d',q1,q2⟩:=g4;have hj:j<L0.length:=by simpa [Blk.refs] using hb
      exact ⟨d',by rw [Env.res_loc (by omega),if_pos hj];exact q1,q2⟩
   ·obtain ⟨d,g1,g2⟩:=hB;exact ⟨d,hlk d g1,g2⟩
   ·obtain ⟨d,cs,ty,fr,g1,g2,g3,g4,g5,g6⟩:=hB;exact ⟨d,cs,ty,fr,hlk d g1,g2,g3,g4,fun j a ha=>let ⟨x,q1,q2⟩:=g5 j a ha;⟨x,q1,cutv a x (AV.refsL_iff.1 hb a (aeQ ha)) q2⟩,g6⟩
   ·obtain ⟨d,D,tm,g1,g2,g3,g4,g5⟩:=hB;simp only [ael] at hb;exact ⟨d,D,tm,hlk d g1,g2,g3,g4,fun t x hx=>cutv x _ (by simpa [hx] using hb (t,x) (tU hx)) (g5 t x hx)⟩)
 exact ⟨E.res (L0++[b]).length (fun i=>if i<L0.length then i else k),_,_,Qv h0 hn (by omega) _ hg,h,VR.ren (E:=E) (E':=E.res (L0++[b]).length (fun i=>if i<L0.length then i else k)) (p:=fun i=>decide (i<L0.length) || decide (i=k)) (fun _ _ _ x=>x) hloc htok r v hr hv,hren⟩
end
theorem Qb {α:Type} (L:List α) (x:α) (l:List α):(L++x::l)[L.length]?=some x:=by simp
theorem lO {α:Type} (L l:List α) (k:Nat):(L++l)[L.length+k]?=l[k]?:=by
 rw [aes (by omega)];congr 1;omega
theorem abg {α:Type} (L:List α) (x y:α) (l:List α):(L++x::l).set L.length y=L++y::l:=by
 rw [ae5 _ _ (by omega)];simp
theorem abf {α:Type} (L l:List α) (k:Nat) (y:α):(L++l).set (L.length+k) y=L++l.set k y:=by
 rw [ae5 _ _ (by omega)];congr 2;omega
theorem ab2 {α:Type} (L l m:List α):(L++l)++m=L++(l++m):=aeu _ _ _
theorem ad {n:Int} (h0 : -9223372036854775808<=n) (h1:n<9223372036854775808):IntKind.i64.wrap n=n:=by
 simp only [IntKind.wrap,IntKind.bits,IntKind.signed];simp;omega
theorem aec (j:Nat) (h:j<9223372036854775807):IntKind.i64.wrap ((j:Int)+1)=(j:Int)+1:=ad (by omega) (by omega)
theorem cx {n:Int} (h0:0<=n) (h1:n<256):IntKind.u8.wrap n=n:=by
 simp only [IntKind.wrap,IntKind.bits,IntKind.signed];simp;omega
theorem ug {n:Int} (h0:0<=n) (h1:n<18446744073709551616):IntKind.u64.wrap n=n:=by
 simp only [IntKind.wrap,IntKind.bits,IntKind.signed];simp;omega
theorem aC {P:Program} {N:Nat} {own:Nat->Nat->Nat} {Q:Exit->Tm->List Blk->Prop} {T:Tm} {L:List Blk} {x:Opd} {y z:bD} (hx:evX T x=some (.bool true)) (h:AW P N own y Q T L):AW P N own (.cond x y z) Q T L :=
 aI hx (fun _=>h) (fun e=>by cases e)
theorem aD {P:Program} {N:Nat} {own:Nat->Nat->Nat} {Q:Exit->Tm->List Blk->Prop} {T:Tm} {L:List Blk} {x:Opd} {y z:bD} (hx:evX T x=some (.bool false)) (h:AW P N own z Q T L):AW P N own (.cond x y z) Q T L :=
 aI hx (fun e=>by cases e) (fun _=>h)
def adZ (v:AV) (xs:List Int):Prop:=(v=.nilsl/\xs=[])\/∃ cap,v=.sl (xs.map (AV.int .i64)) xs.length cap
theorem XE {p:Nat->Bool} (xs:List Int):AV.refsL p (xs.map (AV.int .i64))=true:=AV.refsL_iff.2 fun a ha=>by
 obtain ⟨x,_,rfl⟩:=aey.1 ha;rfl
theorem adZ.refs {p:Nat->Bool} {v:AV} {xs:List Int} (h:adZ v xs):v.refs p=true:=by
 rcases h with ⟨rfl,_⟩|⟨cap,rfl⟩
 ·rfl
 ·exact XE xs
theorem au {p:Prop} [Decidable p] {A B:Prop} (h1:p->A) (h2:¬ p->B):if p then A else B:=by
 by_cases h:p
 ·rw [if_pos h];exact h1 h
 ·rw [if_neg h];exact h2 h
theorem ao {p:Prop} [Decidable p] {A B:Prop} (h1:p->B) (h2:¬ p->A):if ¬ p then A else B:=by
 by_cases h:p
 ·rw [if_neg (fun e=>e h)];exact h1 h
 ·rw [if_pos h];exact h2 h
def acq (L0 L':List Blk) (Q:AV->List Blk->Prop):Option (Prop×List AV)->Prop
 | some (c,rs)=>c/\Fin L0 (Ur rs) L' Q
 | none=>False
theorem WG {L0 L':List Blk} {Q:AV->List Blk->Prop} {c:Prop} {rs:List AV}:acq L0 L' Q (some (c,rs))=(c/\Fin L0 (Ur rs) L' Q):=rfl
theorem aw {res:List WD} {L0 L':List Blk} {T:Tm} {Q:AV->List Blk->Prop} (h:acq L0 L' Q (Qw T L' res)):adA res L0 Q .ret T L':=by
 rcases hr:Qw T L' res with _|⟨c,rs⟩
 ·rw [hr] at h;exact h.elim
 ·rw [hr] at h;exact aaM hr h.1 h.2
def Hid (p:Prop):Prop:=p
theorem hid {p:Prop} (h:p):Hid p:=h
theorem Hid.out {p:Prop} (h:Hid p):p:=h
theorem Kto {K:AV->List Blk->Prop} {L:List Blk} {a b:AV} (h:K a L) (e:a=b):K b L:=e ▸ h
def Sb (T' T:Tm):Prop:=∀ p∈T',∃ v,ar T p.1=some v/\(p.2=v\/p.2=v.frz)
theorem TR.sub {E:Env} {T T':Tm} {a:Act} (r:TR E T a) (h:Sb T' T):TR E T' a:=fun t v hv=>by
 obtain ⟨u,h1,h2⟩:=h _ (tU hv);have:=r t u h1;rcases h2 with h2|h2
 ·simp only at h2;subst h2;exact this
 ·simp only at h2;subst h2;exact VR.frz _ _ this
theorem Vr {T:Tm}:Sb [] T:=fun p h=>by cases h
theorem Iq {T T':Tm} {t:Nat} {v u:AV} (h:ar T t=some u) (e:v=u) (h':Sb T' T):Sb ((t,v)::T') T:=fun p hp=>by
 rcases aex.1 hp with rfl|hp
 ·exact ⟨u,h,.inl e⟩
 ·exact h' p hp
theorem RQ {T T':Tm} {t:Nat} {v u:AV} (h:ar T t=some u) (e:v=u.frz) (h':Sb T' T):Sb ((t,v)::T') T:=fun p hp=>by
 rcases aex.1 hp with rfl|hp
 ·exact ⟨u,h,.inr e⟩
 ·exact h' p hp
def Cut (B:Nat) (T':Tm) (L':List Blk) (T:Tm) (L:List Blk):Prop :=
 Sb T' T/\∃ X,L=L'++X/\B<=L'.length/\(X=[]\/((∀ p∈T',p.2.refs (fun i=>decide (i<L'.length))=true)/\∀ k∈L',k.refs (fun i=>decide (i<L'.length))=true))
theorem Vx {B:Nat} {T' T:Tm} {L:List Blk} (h:Sb T' T) (hB:B<=L.length):Cut B T' L T L:=⟨h,[],by simp,hB,.inl rfl⟩
theorem CutS {B:Nat} {T' T:Tm} {L:List Blk} (a:Sb T' T:=by repeat' first|exact Vr|refine Iq rfl rfl ?_|refine RQ rfl rfl ?_) (b:B<=L.length):Cut B T' L T L:=Vx a b
theorem CutL {B:Nat} {T' T:Tm} {L:List Blk} (a:Sb T' T:=by repeat' first|exact Vr|refine Iq rfl rfl ?_|refine RQ rfl rfl ?_|refine Iq rfl (congrArg (AV.int _) (by omega)) ?_|refine Iq rfl (by first|(simp_all;done)|(simp_all;omega)|(simp_all;intros;omega)) ?_) (b:B<=L.length):Cut B T' L T L:=Vx a b
abbrev aee:=@ae Tryz.prog
abbrev aef:=AV->List Blk->Prop
abbrev Ctr (P:Program) (f:FuncId) (A:List AV) (v:AV):Prop:=∀ {L:List Blk} {K:AV->List Blk->Prop},K v L->ae P f A L K
abbrev o0 (x:LOp):SOp:=.op ⟨none,x,none⟩
abbrev o1 (n:Nat) (x:LOp):SOp:=.op ⟨some n,x,none⟩
abbrev og (n t:Nat) (b:Bool) (x:LOp):SOp:=.op ⟨some n,x,some (t,b)⟩
abbrev od (n:Nat) (x:LOp) (k:Kd):ak×Kd:=(⟨some n,x,none⟩,k)
abbrev tm (t:Nat):Opd:=.tmp t
abbrev iv (n:Int):Opd:=.av (.int .i64 n)
attribute [push_cast] o0 o1 og od tm iv
abbrev Aa (a b:Nat):SOp:=.op ⟨some a,(.mv (.tmp b)),none⟩
abbrev Ab (a:Nat) (b:Int):SOp:=.op ⟨some a,(.mv (.av (.int .i64 b))),none⟩
abbrev Ac (a b c:Nat):SOp:=.op ⟨some a,(.load false b (.tmp c)),none⟩
abbrev Ad (a b c:Nat):SOp:=.op ⟨some a,(.faddr b (.tmp c)),none⟩
abbrev Ae (a b c:Nat):SOp:=.op ⟨some a,(.mv (.tmp c)),some (b,true)⟩
abbrev Af (a b:Nat) (c:Int):SOp:=.op ⟨some a,(.bin .add (.tmp b) (.av (.int .i64 c))),none⟩
abbrev Ag (a:Nat):SOp:=.op ⟨some a,(.mv (.av (.bool false))),none⟩
abbrev Ah (a b:Nat):SOp:=.op ⟨some a,(.len false (.tmp b)),none⟩
abbrev Ai (a b c:Nat):SOp:=.op ⟨some a,(.bin .lss (.tmp b) (.tmp c)),none⟩
abbrev Aj (a b c d:Nat):SOp:=.op ⟨some a,(.iaddr b (.tmp c) (.tmp d)),none⟩
abbrev Ak (a:Nat):SOp:=.op ⟨some a,(.mv (.av (.sl [] 0 (some 0)))),none⟩
abbrev Al (a b c:Nat):SOp:=.op ⟨some a,(.mv (.tmp c)),some (b,false)⟩
abbrev Am (a b c d:Nat):SOp:=.op ⟨some a,(.call b [(.tmp c),(.tmp d)]),none⟩
abbrev An (a b c:Nat):SOp:=.op ⟨some a,(.load true b (.tmp c)),none⟩
abbrev Ao (a b c:Nat):SOp:=.op ⟨some a,(.call b [(.tmp c)]),none⟩
abbrev Ap (a b c:Nat):SOp:=.op ⟨none,(.store a (.tmp b) (.tmp c)),none⟩
abbrev Aq (a:Nat):SOp:=.op ⟨some a,(.mv (.av (.str []))),none⟩
abbrev Ar (a b:Nat):SOp:=.op ⟨some a,(.extract (.tmp b) 0),none⟩
abbrev As (a b:Nat):SOp:=.op ⟨some a,(.extract (.tmp b) 1),none⟩
abbrev Au (a b:Nat) (c:Int):SOp:=.op ⟨some a,(.bin .eql (.tmp b) (.av (.int .i64 c))),none⟩
abbrev Aw (a b:Nat):SOp:=.op ⟨some a,(.un .not (.tmp b)),none⟩
abbrev Ax (a b:Nat):SOp:=.op ⟨some a,(.len true (.tmp b)),none⟩
abbrev Ay (a b:Nat):ak×Kd:=(⟨some a,(.mv (.tmp b)),none⟩,.pure)
abbrev Az (a b:Nat):SOp:=.op ⟨some a,(.box (.tmp b)),none⟩
abbrev A0 (a:Nat):SOp:=.op ⟨some a,(.mv (.av (.bool true))),none⟩
abbrev A3 (a b c d:Nat):SOp:=.op ⟨some a,(.load false c (.tmp d)),some (b,true)⟩
abbrev A4 (a b c d:Nat):SOp:=.op ⟨some a,(.faddr c (.tmp d)),some (b,true)⟩
abbrev A5 (a b c:Nat):ak×Kd:=(⟨some a,(.faddr b (.tmp c)),none⟩,.pure)
abbrev A6 (a b:Nat) (c:Int):SOp:=.op ⟨some a,(.bin .gtr (.tmp b) (.av (.int .i64 c))),none⟩
abbrev A7 (a b c:Nat):SOp:=.op ⟨some a,(.bin .eql (.tmp b) (.tmp c)),none⟩
abbrev A8 (a b c d e:Nat):ak×Kd:=(⟨some a,(.load false b (.tmp c)),none⟩,(.read d e))
abbrev A9 (a b c:Nat):SOp:=.op ⟨some a,(.idxS (.tmp b) (.tmp c)),none⟩
abbrev AA (a b:Nat) (c:Int):SOp:=.op ⟨some a,(.bin .lss (.tmp b) (.av (.int .i64 c))),none⟩
abbrev AB (a b c:Nat) (d:Int):SOp:=.op ⟨some a,(.bin .gtr (.tmp c) (.av (.int .i64 d))),some (b,false)⟩
abbrev AC (a b c:Nat):SOp:=.op ⟨some a,(.bin .add (.tmp b) (.tmp c)),none⟩
abbrev AD (a b c d e:Nat):SOp:=.op ⟨some a,(.call b [(.tmp c),(.tmp d),(.tmp e)]),none⟩
abbrev AE (a b:Nat):SOp:=.op ⟨some a,(.bslice false 1 1 [(.str [])] [(0,(1,(.tmp b)))]),none⟩
abbrev AF (a:Nat):SOp:=.op ⟨some a,(.alloc [(.str []),(.str [])]),none⟩
abbrev AH (a b:Nat) (c:Int):SOp:=.op ⟨some a,(.bin .neq (.tmp b) (.av (.int .i64 c))),none⟩
abbrev AI (a b c:Nat):SOp:=.op ⟨some a,(.app 1 1 1 [(.int .u8 0)] (.tmp b) (.tmp c)),none⟩
abbrev AJ (a b:Nat):SOp:=.op ⟨some a,(.nilchk (.tmp b)),none⟩
abbrev AK (a b c:Nat) (d:Int):SOp:=.op ⟨some a,(.bin .eql (.tmp c) (.av (.int .i64 d))),some (b,false)⟩
abbrev AL (a b c:Nat) (d:Int):SOp:=.op ⟨some a,(.bin .eql (.tmp c) (.av (.int .i64 d))),some (b,true)⟩
abbrev AM (a b:Nat) (c:Int):SOp:=.op ⟨some a,(.bin .geq (.tmp b) (.av (.int .i64 c))),none⟩
abbrev AN (a b c d:Nat):SOp:=.op ⟨some a,(.call c [(.tmp d)]),some (b,true)⟩
abbrev AO (a b c:Nat):SOp:=.op ⟨some a,(.app 1 1 16 [(.str [])] (.tmp b) (.tmp c)),none⟩
abbrev AP (a b c d:Nat):SOp:=.op ⟨some a,(.load false c (.tmp d)),some (b,false)⟩
abbrev AS (a b:Nat):SOp:=.op ⟨some a,(.bslice false 1 1 [(.int .u8 0)] [(0,(1,(.tmp b)))]),none⟩
abbrev AT (a b c:Nat):SOp:=.op ⟨some a,(.len false (.tmp c)),some (b,true)⟩
abbrev AU (a b c d e:Nat):SOp:=.op ⟨some a,(.iaddr c (.tmp d) (.tmp e)),some (b,true)⟩
abbrev AX (a b c d:Nat):SOp:=.op ⟨some a,(.load true c (.tmp d)),some (b,true)⟩
abbrev AY (a b c d:Nat):SOp:=.op ⟨some a,(.call c [(.tmp d)]),some (b,false)⟩
abbrev AZ (a b:Nat):SOp:=.op ⟨some a,(.b2s (.tmp b)),none⟩
abbrev Ba (a b:Nat):SOp:=.op ⟨some a,(.extract (.tmp b) 2),none⟩
abbrev Bb (a b c d:Nat):SOp:=.op ⟨some a,(.faddr c (.tmp d)),some (b,false)⟩
abbrev Bc (a b c d:Nat):SOp:=.op ⟨some a,(.idxS (.tmp c) (.tmp d)),some (b,true)⟩
abbrev Bd (a b:Nat):SOp:=.op ⟨some a,(.bslice false 5 1 [(.str []),(.str []),(.int .i64 0),(.sl [] 0 (some 0)),(.sl [] 0 (some 0))] [(0,(5,(.tmp b)))]),none⟩
abbrev Be (a b c:Nat):SOp:=.op ⟨some a,(.app 1 5 88 [(.str []),(.str []),(.int .i64 0),(.sl [] 0 (some 0)),(.sl [] 0 (some 0))] (.tmp b) (.tmp c)),none⟩
abbrev Bf (a:Nat):SOp:=.op ⟨some a,(.alloc [(.str []),(.sl [] 0 (some 0))]),none⟩
abbrev Bg (a b c:Nat):SOp:=.op ⟨some a,(.un .not (.tmp c)),some (b,false)⟩
abbrev Bh (a:Nat):SOp:=.op ⟨some a,(.alloc [(.str []),(.int .i64 0),(.bool false),(.bool false)]),none⟩
abbrev Bi (a b:Nat):SOp:=.op ⟨some a,(.conv .i64 (.tmp b)),none⟩
abbrev Bj (a b c:Nat):SOp:=.op ⟨some a,(.slV 2 (.tmp b) (some (.tmp c)) none none),none⟩
abbrev Bk (a b:Nat) (c:Int):SOp:=.op ⟨some a,(.bin .sub (.tmp b) (.av (.int .i64 c))),none⟩
abbrev Bl (a:Nat):SOp:=.op ⟨some a,(.alloc [(.str []),(.str []),(.int .i64 0),(.sl [] 0 (some 0)),(.sl [] 0 (some 0))]),none⟩
abbrev Bm (a b c d e:Nat):SOp:=.op ⟨some a,(.call c [(.tmp d),(.tmp e)]),some (b,true)⟩
abbrev Bn (a b c d e f:Nat):SOp:=.op ⟨some a,(.call c [(.tmp d),(.tmp e),(.tmp f)]),some (b,true)⟩
abbrev Bo (a b c:Nat):SOp:=.op ⟨some a,(.len false (.tmp c)),some (b,false)⟩
abbrev Bp (a b c:Nat):SOp:=.op ⟨some a,(.slV 1 (.tmp b) (some (.tmp c)) none none),none⟩
abbrev Bq (a b c:Nat) (d:Int):SOp:=.op ⟨some a,(.bin .lss (.tmp c) (.av (.int .i64 d))),some (b,true)⟩
abbrev Br (a b c d:Nat):SOp:=.op ⟨some a,(.idxS (.tmp c) (.tmp d)),some (b,false)⟩
abbrev Bt (a b c:Nat):SOp:=.op ⟨some a,(.len true (.tmp c)),some (b,false)⟩
abbrev Bu (a b:Nat):SOp:=.op ⟨some a,(.bin .eql (.tmp b) (.av (.str []))),none⟩
abbrev Bv (a b c:Nat):SOp:=.op ⟨some a,(.bin .eql (.tmp c) (.av (.int .u8 32))),some (b,true)⟩
abbrev Bw (a b c d e:Nat):ak×Kd:=(⟨some a,(.call b [(.tmp c)]),none⟩,(.read d e))
abbrev Bx (a b c:Nat) (d:Int) (e:Nat):SOp:=.op ⟨some a,(.call b [(.tmp c),(.av (.int .i64 d)),(.tmp e)]),none⟩
abbrev By (a b:Nat):SOp:=.op ⟨some a,(.build [(.sl [] 0 (some 0)),(.sl [] 0 (some 0))] [(0,(2,(.tmp b)))]),none⟩
abbrev Bz (a b c:Nat):SOp:=.op ⟨some a,(.slV 2 (.tmp b) none (some (.tmp c)) none),none⟩
abbrev B0 (a b c:Nat):ak×Kd:=(⟨some a,(.bin .add (.tmp b) (.tmp c)),none⟩,.pure)
abbrev B1 (a b c d e:Nat):ak×Kd:=(⟨some a,(.slV 2 (.tmp b) (some (.tmp c)) none none),none⟩,(.read d e))
abbrev B3 (a b c d e:Nat):ak×Kd:=(⟨some a,(.slV 1 (.tmp b) (some (.tmp c)) none none),none⟩,(.read d e))
abbrev B4 (a b c d:Nat):SOp:=.op ⟨some a,(.bin .eql (.tmp c) (.tmp d)),some (b,true)⟩
abbrev B5 (a b:Nat):SOp:=.op ⟨some a,(.bslice false 2 1 [(.str []),(.str [])] [(0,(2,(.tmp b)))]),none⟩
abbrev B6 (a b c:Nat):SOp:=.op ⟨some a,(.app 1 2 32 [(.str []),(.str [])] (.tmp b) (.tmp c)),none⟩
abbrev B7 (a b c:Nat):SOp:=.op ⟨some a,(.un .not (.tmp c)),some (b,true)⟩
abbrev B8 (a:Nat):SOp:=.op ⟨some a,(.bslice false 1 1 [(.str [])] [(0,(1,(.av (.str [100,101,115,99,114,105,112,116,105,111,110]))))]),none⟩
abbrev B9 (a b c d:Nat):ak×Kd:=(⟨some a,(.bslice false 2 1 [(.str []),(.sl [] 0 (some 0))] [(0,(2,(.tmp b)))]),none⟩,(.read c d))
abbrev BA (a b c d e:Nat):ak×Kd:=(⟨some a,(.load true b (.tmp c)),none⟩,(.read d e))
abbrev BB (a b c:Nat):SOp:=.op ⟨some a,(.callv (.tmp b) [(.tmp c)]),none⟩
abbrev BC (a b:Nat) (c:Int):SOp:=.op ⟨some a,(.callv (.tmp b) [(.av (.int .i64 c))]),none⟩
abbrev BD (a b c:Nat) (d:Int):SOp:=.op ⟨some a,(.bin .rem (.tmp c) (.av (.int .i64 d))),some (b,true)⟩
abbrev BE (a b c:Nat) (d:Int):SOp:=.op ⟨some a,(.bin .neq (.tmp c) (.av (.int .i64 d))),some (b,true)⟩
abbrev BF (a b:Nat):SOp:=.op ⟨some a,(.bin .sub (.tmp b) (.av (.int .u8 48))),none⟩
abbrev BG (a b:Nat) (c:Int):SOp:=.op ⟨some a,(.idxS (.tmp b) (.av (.int .i64 c))),none⟩
abbrev BH (a b c:Nat) (d:Int):SOp:=.op ⟨some a,(.bin .geq (.tmp c) (.av (.int .i64 d))),some (b,false)⟩
abbrev BI (a b:Nat):SOp:=.op ⟨some a,(.bin .neq (.tmp b) (.av (.str []))),none⟩
abbrev BJ (a b:Nat):SOp:=.op ⟨some a,(.bin .eql (.tmp b) (.av (.int .u8 0))),none⟩
abbrev BK (a b:Nat):SOp:=.op ⟨some a,(.bslice false 1 1 [(.sl [] 0 (some 0))] [(0,(1,(.tmp b)))]),none⟩
abbrev BL (a b c:Nat):SOp:=.op ⟨some a,(.app 1 1 24 [(.sl [] 0 (some 0))] (.tmp b) (.tmp c)),none⟩
abbrev BM (a b:Nat):SOp:=.op ⟨some a,(.bslice false 4 1 [(.str []),(.int .i64 0),(.bool false),(.bool false)] [(0,(4,(.tmp b)))]),none⟩
abbrev BN (a b c:Nat):SOp:=.op ⟨some a,(.app 1 4 32 [(.str []),(.int .i64 0),(.bool false),(.bool false)] (.tmp b) (.tmp c)),none⟩
abbrev BO (a b c:Nat):ak×Kd:=(⟨some a,(.build [(.str []),(.sl [] 0 (some 0))] [(0,(1,(.tmp b))),(1,(1,(.tmp c)))]),none⟩,.pure)
abbrev BP (a b c d e f:Nat):ak×Kd:=(⟨some a,(.call b [(.tmp c),(.tmp d)]),none⟩,(.read e f))
abbrev BQ (a b c:Nat):SOp:=.op ⟨some a,(.app 2 1 16 [(.str [])] (.tmp b) (.tmp c)),none⟩
abbrev BR (a b c:Nat):SOp:=.op ⟨some a,(.slV 1 (.tmp b) none (some (.tmp c)) none),none⟩
abbrev BS (a b c:Nat) (d:Int):SOp:=.op ⟨some a,(.idxS (.tmp c) (.av (.int .i64 d))),some (b,false)⟩
abbrev BT (a b c:Nat) (d:Int):SOp:=.op ⟨some a,(.callv (.tmp c) [(.av (.int .i64 d))]),some (b,false)⟩
abbrev BU (a b c:Nat):SOp:=.op ⟨some a,(.slS (.tmp b) (some (.tmp c)) none),none⟩
abbrev BV (a b c d:Nat):SOp:=.op ⟨some a,(.bin .leq (.tmp c) (.tmp d)),some (b,true)⟩
abbrev BW (a b c:Nat) (d e:Int):SOp:=.op ⟨some a,(.slS (.tmp c) (some (.av (.int .i64 d))) (some (.av (.int .i64 e)))),some (b,false)⟩
abbrev BX (a b c d:Nat):SOp:=.op ⟨some a,(.slS (.tmp b) (some (.tmp c)) (some (.tmp d))),none⟩
abbrev BY (a b c:Nat) (d:Int):SOp:=.op ⟨some a,(.bin .sub (.tmp c) (.av (.int .i64 d))),some (b,false)⟩
abbrev BZ (a b:Nat):SOp:=.op ⟨some a,(.bin .geq (.tmp b) (.av (.int .u8 65))),none⟩
abbrev Ca (a b c:Nat):SOp:=.op ⟨some a,(.bin .eql (.tmp c) (.av (.int .u8 32))),some (b,false)⟩
abbrev Cb (a b c:Nat) (d:Int):SOp:=.op ⟨some a,(.bin .sub (.tmp c) (.av (.int .i64 d))),some (b,true)⟩
abbrev Cc (a:Nat):SOp:=.op ⟨some a,(.mv (.av (.int .u8 0))),none⟩
abbrev Cd (a b c d:Nat):SOp:=.op ⟨some a,(.bin .lss (.tmp c) (.tmp d)),some (b,true)⟩
abbrev Ce (a b:Nat):SOp:=.op ⟨some a,(.bslice false 2 1 [(.str []),(.sl [] 0 (some 0))] [(0,(2,(.tmp b)))]),none⟩
abbrev Cf (a b c:Nat):SOp:=.op ⟨some a,(.app 1 2 40 [(.str []),(.sl [] 0 (some 0))] (.tmp b) (.tmp c)),none⟩
abbrev Cg (a:Nat):SOp:=.op ⟨some a,(.alloc [(.sl [] 0 (some 0)),(.sl [] 0 (some 0))]),none⟩
abbrev Ch (a b c d e f:Nat):SOp:=.op ⟨some a,(.call b [(.tmp c),(.tmp d),(.tmp e),(.tmp f)]),none⟩
abbrev Ci (a b c:Nat):SOp:=.op ⟨some a,(.bslice false 2 1 [(.str []),(.str [])] [(0,(2,(.tmp c)))]),some (b,true)⟩
abbrev LSO:=List SOp
abbrev Cj:List Bool:=[true,false]
abbrev Ck:List Bool:=[true,false,false]
abbrev Cl:List Bool:=[true,false,false,false]
abbrev Cm:List Bool:=[true,false,false,false,false]
abbrev Co:List Bool:=[true,false,false,false,false,false]
abbrev Cp:List Bool:=[true,true,false]
abbrev Cq:List Bool:=[true,false,false,false,false,false,false]
abbrev Cr:List Bool:=[true,false,false,false,false,false,false,false]
abbrev Cs:List Bool:=[false,false,false,false,false]
abbrev Ct:List Bool:=[true,true,false,false,false]
abbrev Cu:List Bool:=[true,true,false,false,false,false,false,false]
abbrev Cv:List Bool:=[true,false,false,false,false,false,false,false,false,false]
abbrev Cw:List Bool:=[true,true,false,false]
abbrev Cx:List Bool:=[true,false,false,false,false,false,false,false,false]
abbrev Cy:List Bool:=[false,false,false,false,false,false,false,false]
abbrev Cz:List Bool:=[true,true,true,false]
abbrev C0:List Bool:=[true,true,false,false,false,false,false,false,false]
abbrev C3:List Bool:=[true,true,false,false,false,false,false,false,false,false,false,false]
abbrev C4:List Bool:=[true,true,false,false,false,false,false]
abbrev C6:List Bool:=[true,true,false,false,false,false]
abbrev C7:List Bool:=[true,true,true,false,false]
abbrev CB:List Bool:=[false,false,false,false,false,false]
abbrev CC:List Bool:=[false,false,false]
abbrev CD:List Bool:=[false,false,false,false,false,false,false,false,false]
abbrev CE:List Bool:=[true,true,true,false,false,false,false,false,false]
abbrev CF:List Bool:=[false,false,false,false,false,false,false]
abbrev CG:List Bool:=[false,false]
abbrev CI:List Bool:=[false,true,false,false,false,false,false,false,false]
abbrev CJ:List Bool:=[true,true,true,false,false,false,false,false,false,false,false]
abbrev CK:List Bool:=[true,false,false,false,false,false,false,false,false,false,false,false]
abbrev CL:List Bool:=[false,false,false,false,false,false,false,false,false,false,false]
abbrev CM:List Bool:=[true,false,false,false,false,false,false,false,false,false,false,false,false,false]
abbrev CO:List Bool:=[true,true,true,false,false,false,false,false,false,false,false,false]
abbrev CP:List Bool:=[true,true,false,false,false,false,false,false,false,false]
abbrev CQ:List Bool:=[true,false,false,false,false,false,false,false,false,false,false]
abbrev CR:List Bool:=[true,true,false,false,false,false,false,false,false,false,false,false,false]
attribute [push_cast] Aa Ab Ac Ad Ae Af Ag Ah Ai Aj Ak Al Am An Ao Ap Aq Ar As Au Aw Ax Ay Az A0 A3 A4 A5 A6 A7 A8 A9 AA AB AC AD AE AF AH AI AJ AK AL AM AN AO AP AS AT AU AX AY AZ Ba Bb Bc Bd Be Bf Bg Bh Bi Bj Bk Bl Bm Bn Bo Bp Bq Br Bt Bu Bv Bw Bx By Bz B0 B1 B3 B4 B5 B6 B7 B8 B9 BA BB BC BD BE BF BG BH BI BJ BK BL BM BN BO BP BQ BR BS BT BU BV BW BX BY BZ Ca Cb Cc Cd Ce Cf Cg Ch Ci Cj Ck Cl Cm Co Cp Cq Cr Cs Ct Cu Cv Cw Cx Cy Cz C0 C3 C4 C6 C7 CB CC CD CE CF CG CI CJ CK CL CM CO CP CQ CR
section
variable {P:Program} {w0:World} {S0:SB} {N:Nat} {own:Nat->Nat->Nat} {Q:Exit->Tm->List Blk->Prop} {T:Tm} {L:List Blk}
theorem Rel.none_of {E:Env} {w:World} (h:Rel w0 S0 E L w):∀ i,L.length<=i->E.loc i=none/\E.tok i=none:=fun i hi=>⟨h.fresh i hi,h.tkfresh i hi⟩
theorem St.cut {E0 E:Env} {a:Act} {w:World} {T':Tm} {L':List Blk} {B:Nat} (h0:E0.le E) (hB:∀ i,B<=i->E0.loc i=none/\E0.tok i=none) (h:St w0 S0 N E T L a w) (hc:Cut B T' L' T L):∃ E',E0.le E'/\St w0 S0 N E' T' L' a w:=by
 obtain ⟨hs,X,rfl,hlen,hx⟩:=hc;rcases hx with rfl|⟨h1,h2⟩
 ·exact ⟨E,h0,by simpa using h.1,h.2.1.sub hs,h.2.2⟩
 ·refine ⟨E.res L'.length id,Qv h0 hB hlen id (fun _ _=>rfl),h.1.cut h2,fun t v hv=>?_,h.2.2⟩;have:=(h.2.1.sub hs) t v hv;refine VR.cut (E:=E) (E':=E.res L'.length id) (p:=fun i=>decide (i<L'.length)) (fun _ _ _ x=>x) (fun i c hi hc=>?_) (fun i c hi hc=>?_) v _ (h1 _ (tU hv)) this
  ·rw [Env.res_loc (by simpa using hi)];exact hc
  ·rw [Env.res_tok (by simpa using hi)];exact hc
def Nxt (B n:Nat) (I:Nat->Tm->List Blk->Prop) (T1:Tm) (L1:List Blk):Prop:=∃ m T2 L2,m<n/\Cut B T2 L2 T1 L1/\I m T2 L2
def Mid (B:Nat) (R:Tm->List Blk->Prop) (T1:Tm) (L1:List Blk):Prop:=∃ T2 L2,Cut B T2 L2 T1 L1/\R T2 L2
theorem ag {B n:Nat} {I:Nat->Tm->List Blk->Prop} {T1:Tm} {L1:List Blk} (m:Nat) (T2:Tm) (L2:List Blk) (h1:m<n) (h2:Cut B T2 L2 T1 L1) (h3:I m T2 L2):Nxt B n I T1 L1:=⟨m,T2,L2,h1,h2,h3⟩
theorem gT {B:Nat} {R:Tm->List Blk->Prop} {T1:Tm} {L1:List Blk} (T2:Tm) (L2:List Blk) (h2:Cut B T2 L2 T1 L1) (h3:R T2 L2):Mid B R T1 L1:=⟨T2,L2,h2,h3⟩
theorem ai {x:bD} (I:Nat->Tm->List Blk->Prop) {n0:Nat} {T0:Tm} {L0:List Blk} (hc0:Cut L.length T0 L0 T L) (h0:I n0 T0 L0)
  (round:∀ n T' L',I n T' L'->AW P N own x (Xe (Nxt L.length n I) Q) T' L'):AW P N own (.loop x) Q T L:=fun c hc r hr w0 S0 E a w hst=>by
 classical
 obtain ⟨c1,rfl,h1⟩:=ZO hc;have hB:=hst.1.none_of
 let J:Act->World->Nat->Prop:=fun a w n=>∃ w1 S1 E' T' L',Bs w0 S0 w1 S1/\E.le E'/\I n T' L'/\St w1 S1 N E' T' L' a w
 have least:∀ a w,∃ m,(∃ n,J a w n)->J a w m/\∀ k,J a w k->m<=k:=fun a w=>by
  by_cases h:∃ n,J a w n
  ·obtain ⟨n,hn⟩:=h;obtain ⟨m,h1,h2⟩:=TH (J a w) n hn;exact ⟨m,fun _=>⟨h1,h2⟩⟩
  ·exact ⟨0,fun h'=>absurd h' h⟩
 let μ:Act->World->Nat:=fun a w=>Classical.choose (least a w)
 have hμ:∀ a w,(∃ n,J a w n)->J a w (μ a w)/\∀ k,J a w k->μ a w<=k:=fun a w=>Classical.choose_spec (least a w)
 obtain ⟨E1,e1,e2⟩:=hst.cut (.refl E) hB hc0;refine wpIn_loop (fun a w=>∃ n,J a w n) μ ⟨n0,w0,S0,E1,_,_,.refl _ _,e1,h0,e2⟩ fun a w hJ=>?_
 obtain ⟨⟨w1,S1,E',T',L',b,g1,g2,g3⟩,_⟩:=hμ a w hJ;refine wpIn_mono (round _ T' L' g2 c1 h1 r (fun e=>hr (by simp [bD.hasRF,e])) w1 S1 E' a w g3) fun e a' w' ⟨w3,S3,E'',T'',L'',b2,k1,k2,k3⟩=>?_
 cases e
 ·obtain ⟨m,T2,L2,hm,hcut,hI⟩:=k2;obtain ⟨E3,q1,q2⟩:=k3.cut (g1.trans k1) hB hcut;have hJ':J a' w' m:=⟨w3,S3,E3,T2,L2,b.trans b2,q1,hI,q2⟩;exact ⟨⟨m,hJ'⟩,Nat.lt_of_le_of_lt ((hμ a' w' ⟨m,hJ'⟩).2 m hJ') hm⟩
 all_goals exact ⟨w3,S3,E'',T'',L'',b.trans b2,g1.trans k1,k2,k3⟩
theorem Xi {lc:bD} (h:(∀ k∈L,k.refs (fun i=>decide (i<L.length))=true)->AW P N own lc Q T L):AW P N own lc Q T L:=fun c hl r hr w0 S0 E a w hst =>
 h hst.1.refs c hl r hr w0 S0 E a w hst
theorem uW {x y:bD} (R:Tm->List Blk->Prop) (h:AW P N own x (Xe (Mid L.length R) Q) T L) (hq:∀ T2 L2,R T2 L2->L.length<=L2.length->AW P N own y Q T2 L2):AW P N own (.seq x y) Q T L:=fun c hc r hr w0 S0 E a w hst=>by
 obtain ⟨c1,c2,rfl,h1,h2⟩:=W3 hc;refine wpIn_seq (wpIn_mono (h c1 h1 r (fun e=>hr (by simp [bD.hasRF,e])) w0 S0 E a w hst) fun e a' w' ⟨w1,S1,E',T',L',b,g1,g2,g3⟩=>?_);cases e
 ·obtain ⟨T2,L2,k1,k2⟩:=g2;obtain ⟨E3,q1,q2⟩:=g3.cut g1 hst.1.none_of k1;obtain ⟨_,X,_,hlen,_⟩:=k1;exact wpIn_mono (hq T2 L2 k2 hlen c2 h2 r (fun e=>hr (by simp [bD.hasRF,e])) w1 S1 E3 a' w' q2) fun e a'' w'' ⟨w2,S2,E4,T4,L4,b2,k1,k2,k3⟩=>⟨w2,S2,E4,T4,L4,b.trans b2,q1.trans k1,k2,k3⟩
 all_goals exact ⟨w1,S1,E',T',L',b,g1,g2,g3⟩
theorem TR.cons {E:Env} {a:Act} {t:Nat} {v:AV} (r:TR E T a) (hv:VR E v (a.tmps.getD t undef)):TR E ((t,v)::T) a:=fun t' v' h=>by
 simp only [ar] at h;split at h
 ·rename_i e;subst e;simp at h;subst h;exact hv
 ·exact r t' v' h
theorem cz {lc:bD} (t sz:Nat) {l:List AV} {n:Nat} (h1:ar T t=some (.sl l n (some n))) (h2:l.length=n * sz) (h:AW P N own lc Q ((t,.gsl l n L.length sz)::T) (L++[.spare n sz])):AW P N own lc Q T L:=fun c hl r hr w0 S0 E a w hst=>by
 obtain ⟨r1,r2⟩:=hst.1.addtok (n:=n) (sz:=sz) (lc:=none) OQ;have hv:=hst.2.1 t _ h1;have hT:=hst.2.1.mono r1;refine wpIn_mono (h c hl r hr w0 S0 _ a w ⟨r2,hT.cons ?_,hst.2.2⟩) fun e a' w' ⟨w1,S1,E',T1,L1,b,k1,k2,k3⟩=>⟨w1,S1,E',T1,L1,b,r1.trans k1,k2,k3⟩
 have hv':=VR.mono r1 _ _ hv;generalize a.tmps.getD t undef=v at hv';simp only [VR] at hv' ⊢;obtain ⟨p,c',q1,q2,q3,q4⟩:=hv';exact ⟨p,c',q1,q2,h2,q4,⟨n,sz,none⟩,by simp,aeg _,fun _=>⟨rfl,fun _=>q3 n rfl,by simp⟩⟩
theorem T9 {lc:bD} (t:Nat) {i off n sz:Nat} (h1:ar T t=some (.lsl i off n none sz)) (h:∀ cp,n<=cp->AW P N own lc Q ((t,.lsl i off n (some cp) sz)::T) L):AW P N own lc Q T L:=fun c hl r hr w0 S0 E a w hst=>by
 have hv:=hst.2.1 t _ h1;simp only [VR] at hv;obtain ⟨k,rc,d,q1,q2,q3,q4,_,q6⟩:=hv;refine h rc q4 c hl r hr w0 S0 E a w ⟨hst.1,hst.2.1.cons ?_,hst.2.2⟩;simp only [VR];exact ⟨k,rc,d,q1,q2,q3,q4,fun k hk=>by cases hk;rfl,q6⟩
theorem aaO {lc:bD} (t:Nat) {i off n sz cp:Nat} {l:List AV} (h1:ar T t=some (.lsl i off n (some cp) sz)) (hL:L[i]?=some (.cells l)) (hcp:0<cp) (h:AW P N own lc Q T (L.set i (.cells (l++List.replicate (off+cp * sz - l.length) .undef)))):AW P N own lc Q T L:=fun c hl r hr w0 S0 E a w hst=>by
 have hv:=hst.2.1 t _ h1;simp only [VR] at hv;obtain ⟨k,rc,d,q1,q2,q3,q4,q5,q6⟩:=hv;have:=q5 cp rfl;subst this;obtain ⟨k',cs,ty,fr,b1,b2,b3,b4,b5,b6⟩:=hst.1.blk i _ hL;rw [q1] at b1;cases b1;refine h c hl r hr w0 S0 E a w ⟨hst.1.turn hL rfl q1 rfl (fun _ _=>rfl) rfl rfl rfl ?_ (by simp),hst.2.1,hst.2.2⟩;refine ⟨k,cs,ty,fr,q1,b2,b3,by simp;omega,fun j a ha=>?_,b6⟩;rw [afg] at ha;split at ha
 ·exact b5 j a ha
 ·have hj:j - l.length<off+rc * sz - l.length:=by
   have:=(aeh.1 ha).1;simpa using this
  rw [List.getElem?_replicate,if_pos hj] at ha;cases ha;have hlt:k.off+j<cs.size:=by omega
  exact ⟨cs[k.off+j],ae0 hlt,by simp [VR]⟩
theorem aG {x:Opd} {y z:bD} {p:Prop} [Decidable p] (hx:evX T x=some (.bool (decide p))) (ht:p->AW P N own y Q T L) (hf:¬ p->AW P N own z Q T L):AW P N own (.cond x y z) Q T L :=
 aI hx (fun e=>ht (of_decide_eq_true e)) (fun e=>hf (of_decide_eq_false e))
theorem aF {x:Opd} {y z:bD} {p:Prop} [Decidable p] (hx:evX T x=some (.bool (!decide p))) (ht:¬ p->AW P N own y Q T L) (hf:p->AW P N own z Q T L):AW P N own (.cond x y z) Q T L :=
 aI hx (fun e=>ht (of_decide_eq_false (by simpa using e))) (fun e=>hf (of_decide_eq_true (by simpa using e)))
end
section
variable {P:Program} {K:Tm->Prop} {L L1:List Blk} {Ls:List (List Blk)} {p:AV} {d:Option Nat} {op:LOp} {rest:List ak} {T:Tm} {t:Nat} {b:Bool} {al:Option Nat} {n:Nat}
def aax (L:List Blk) (k:AV->Prop):Option (Prop×AV×List Blk)->Prop
 | some (c,av,L')=>c/\L'=L/\k av
 | none=>False
theorem YB {k:AV->Prop} {c:Prop} {av:AV} {L':List Blk}:aax L k (some (c,av,L'))=(c/\L'=L/\k av):=rfl
def Wy (L L1:List Blk) (k:AV->Prop):Option (Prop×AV×List Blk)->Option (Prop×AV×List Blk)->Prop
 | some (c,av,L'),some (c2,av2,L2)=>c/\L'=L/\c2/\av2=av/\L2=L1/\k av
 | _,_=>False
theorem YA {k:AV->Prop} {c c2:Prop} {av av2:AV} {L' L2:List Blk}:Wy L L1 k (some (c,av,L')) (some (c2,av2,L2))=(c/\L'=L/\c2/\av2=av/\L2=L1/\k av):=rfl
def adz (P:Program) (f:FuncId) (L:List Blk) (k:AV->Prop):Option (List AV)->Prop
 | some args=>∃ v,ae P f args L (fun av L'=>av=v/\L'=L)/\k v
 | none=>False
def ab8 (P:Program) (f:FuncId) (L L1:List Blk) (k:AV->Prop):Option (List AV)->Prop
 | some args=>∃ v,ae P f args L (fun av L'=>av=v/\L'=L)/\ae P f args L1 (fun av L'=>av=v/\L'=L1)/\k v
 | none=>False
def Vu (b:Bool) (y n:Prop):Option AV->Prop
 | some (.bool x)=>if x=b then y else n
 | some (.tup [])=>n
 | _=>False
theorem YE {b x:Bool} {y n:Prop}:Vu b y n (some (.bool x))=if x=b then y else n:=rfl
theorem aaC {b:Bool} {y n:Prop}:Vu b y n (some (.tup []))=n:=rfl
def acp (P:Program) (f:FuncId) (args:List AV) (L L1:List Blk) (k:AV->Prop):Prop:=∃ v,ae P f args L (fun av L'=>av=v/\L'=L)/\ae P f args L1 (fun av L'=>av=v/\L'=L1)/\k v
theorem bj {f:FuncId} {args:List AV} {k:AV->Prop} {v:AV} (h:ae P f args L (fun av L'=>av=v/\L'=L)) (h1:ae P f args L1 (fun av L'=>av=v/\L'=L1)) (hk:k v):acp P f args L L1 k:=⟨v,h,h1,hk⟩
theorem ady {f:FuncId} {k:AV->Prop} {args:List AV}:adz P f L k (some args)=aaL P f args L k:=rfl
theorem adx {f:FuncId} {k:AV->Prop} {args:List AV}:ab8 P f L L1 k (some args)=acp P f args L L1 k:=rfl
theorem aaP {o:ak} {v:AV} (h:o.op.isCall=false):AQv P o T L v=(match aj T L o.op with|some (c,av,L')=>c/\av=v/\L'=L|none=>False):=by
 obtain ⟨d,op,g⟩:=o;cases op<;>simp only [LOp.isCall,afB] at h<;>rfl
def Sc (P:Program) (L:List Blk) (k:AV->Prop) (T:Tm) (op:LOp):Prop :=
 match op with
 | .call f xs=>adz P f L k (gw T xs)
 | .callv f xs=>∃ v,AQv P ⟨none,.callv f xs,none⟩ T L v/\k v
 | lo=>aax L k (aj T L lo)
def aav (P:Program) (L L1:List Blk) (k:AV->Prop) (T:Tm) (op:LOp):Prop :=
 match op with
 | .call f xs=>ab8 P f L L1 k (gw T xs)
 | .callv f xs=>∃ v,(AQv P ⟨none,.callv f xs,none⟩ T L v/\AQv P ⟨none,.callv f xs,none⟩ T L1 v)/\k v
 | lo=>Wy L L1 k (aj T L lo) (aj T L1 lo)
def AGK (P:Program) (K:Tm->List Blk->Prop) (Ls:List (List Blk)) (H:List kM) (rest:List (ak×Kd)) (d:Option Nat) (T:Tm) (av:AV):Prop:=AG P K rest Ls H (cn d av T)
def AGR (P:Program) (K:Tm->List Blk->Prop) (Ls:List (List Blk)) (H:List kM) (rest:List (ak×Kd)) (f:Nat) (o:ak) (T:Tm) (av:AV):Prop:=AG P K rest Ls (V2 f o T av H) (cn o.dst av T)
def AGE (P:Program) (K:Tm->List Blk->Prop) (Ls:List (List Blk)) (H:List kM) (rest:List (ak×Kd)) (d:Option Nat) (T:Tm) (av:AV) (L2:List Blk):Prop:=Dz P L2 H/\AG P K rest (L2::Ls) (Ll H) (cn d av T)
def Yz (k:AV->List Blk->Prop):Option (Prop×AV×List Blk)->Prop
 | some (c,av,L2)=>c/\k av L2
 | none=>False
theorem S8 {k:AV->List Blk->Prop} {c:Prop} {av:AV} {L2:List Blk}:Yz k (some (c,av,L2))=(c/\k av L2):=rfl
def IsV (v av:AV):Prop:=av=v
theorem acO {o:ak} {T:Tm} {v:AV} {H:List kM}:V2 0 o T v H=H:=rfl
theorem acN {f:Nat} {o:ak} {T:Tm} {v:AV} {H:List kM}:V2 (f+1) o T v H=(f+1,o,T,v)::H:=rfl
theorem aai:Ll []=[]:=rfl
theorem aah {y:ak×Tm×AV} {H:List kM}:Ll ((1,y)::H)=Ll H:=rfl
theorem adf {y:ak×Tm×AV} {H:List kM}:Ll ((n+2,y)::H)=(n+1,y)::Ll H:=rfl
theorem Ir {k:AV->Prop}:(∃ v,AQ P ⟨d,op,none⟩ T L v/\k v)=Sc P L k T op:=by
 by_cases h:op.isCall=false
 ·have e:Sc P L k T op=aax L k (aj T L op):=by cases op<;>simp only [LOp.isCall,afB] at h<;>rfl
  rw [e];simp only [AQ,aaP (o:=⟨d,op,none⟩) h];rcases aj T L op with _|⟨c,av,L'⟩
  ·simp [aax]
  ·simp only [aax,eq_iff_iff];exact ⟨fun ⟨v,⟨h1,h2,h3⟩,h4⟩=>⟨h1,h3,h2 ▸ h4⟩,fun ⟨h1,h2,h3⟩=>⟨av,⟨h1,rfl,h2⟩,h3⟩⟩
 ·cases op<;>simp only [LOp.isCall,not_true_eq_false] at h
  ·rename_i f xs
   simp only [AQ,AQv,Sc];rcases gw T xs with _|args
   ·simp [adz]
   ·rfl
  ·rfl
theorem ab9 {k:AV->Prop}:(∃ v,(AQ P ⟨d,op,none⟩ T L v/\AQ P ⟨d,op,none⟩ T L1 v)/\k v)=aav P L L1 k T op:=by
 by_cases h:op.isCall=false
 ·have e:aav P L L1 k T op=Wy L L1 k (aj T L op) (aj T L1 op):=by cases op<;>simp only [LOp.isCall,afB] at h<;>rfl
  rw [e];simp only [AQ,aaP (o:=⟨d,op,none⟩) h];rcases aj T L op with _|⟨c,av,L'⟩<;>rcases aj T L1 op with _|⟨c2,av2,L2⟩
  ·simp [Wy]
  ·simp [Wy]
  ·simp [Wy]
  ·simp only [Wy,eq_iff_iff];exact ⟨fun ⟨v,⟨⟨h1,h2,h3⟩,h4,h5,h6⟩,h7⟩=>⟨h1,h3,h4,h5.trans h2.symm,h6,h2 ▸ h7⟩,fun ⟨h1,h2,h3,h4,h5,h6⟩=>⟨av,⟨⟨h1,rfl,h2⟩,h3,h4,h5⟩,h6⟩⟩
 ·cases op<;>simp only [LOp.isCall,not_true_eq_false] at h
  ·rename_i f xs
   simp only [AQ,AQv,aav];rcases gw T xs with _|args
   ·simp [ab8]
   ·simp only [ab8,and_assoc]
  ·rfl
theorem WH {k:AV->Prop} {g:ak->AV->Prop} (hg:∀ v,g ⟨d,op,some (t,b)⟩ v=match ar T t with|some (.bool x)=>if x=b then g ⟨d,op,none⟩ v else v=.tup []|some (.tup [])=>v=.tup []|_=>False) :
  (∃ v,g ⟨d,op,some (t,b)⟩ v/\k v)=Vu b (∃ v,g ⟨d,op,none⟩ v/\k v) (k (.tup [])) (ar T t):=by
 simp only [hg];rcases ar T t with _|x
 ·simp [Vu]
 ·cases x<;>simp only [Vu,false_and,exists_false]
  ·rename_i x
   by_cases e:x=b
   ·simp [e]
   ·simp [e]
  ·rename_i l
   cases l with
   | nil=>simp
   | cons _ _=>simp
theorem adF {K:Tm->List Blk->Prop} {H:List kM}:AG P K [] (L::Ls) H T=K T L:=rfl
theorem acb {K:Tm->List Blk->Prop} {H:List kM} {r:List (ak×Kd)}:AG P K ((⟨d,op,none⟩,.pure)::r) (L::Ls) H T=Sc P L (AGK P K (L::Ls) H r d T) T op:=Ir
theorem aaU {K:Tm->List Blk->Prop} {H:List kM} {r:List (ak×Kd)}:AG P K ((⟨d,op,some (t,b)⟩,.pure)::r) (L::Ls) H T=Vu b (Sc P L (AGK P K (L::Ls) H r d T) T op) (AGK P K (L::Ls) H r d T (.tup [])) (ar T t):=by
 rw [<- Ir (d:=d)];exact WH (g:=fun o v=>AQ P o T L v) fun v=>rfl
theorem aaT {K:Tm->List Blk->Prop} {H:List kM} {r:List (ak×Kd)} {f:Nat}:AG P K ((⟨d,op,none⟩,.read 0 f)::r) (L::Ls) H T=Sc P L (AGR P K (L::Ls) H r f ⟨d,op,none⟩ T) T op:=by
 rw [<- Ir (d:=d)];simp only [AG,afx,afI,aeO,forall_eq,AGR]
theorem YI {K:Tm->List Blk->Prop} {H:List kM} {r:List (ak×Kd)} {f:Nat}:AG P K ((⟨d,op,some (t,b)⟩,.read 0 f)::r) (L::Ls) H T=Vu b (Sc P L (AGR P K (L::Ls) H r f ⟨d,op,some (t,b)⟩ T) T op) (AGR P K (L::Ls) H r f ⟨d,op,some (t,b)⟩ T (.tup [])) (ar T t):=by
 rw [<- Ir (d:=d)];simp only [AG,afx,afI,aeO,forall_eq];exact WH (g:=fun o v=>AQ P o T L v) (k:=AGR P K (L::Ls) H r f ⟨d,op,some (t,b)⟩ T) fun v=>rfl
theorem aaS {K:Tm->List Blk->Prop} {H:List kM} {r:List (ak×Kd)} {f:Nat}:AG P K ((⟨d,op,none⟩,.read 1 f)::r) (L::L1::Ls) H T=aav P L L1 (AGR P K (L::L1::Ls) H r f ⟨d,op,none⟩ T) T op:=by
 rw [<- ab9 (d:=d)];simp only [AG,afx,afI,aex,agB,or_false,forall_eq_or_imp,forall_eq,AGR]
def adY (P:Program) (L:List Blk) (k:AV->List Blk->Prop) (T:Tm) (op:LOp):Prop :=
 match op with
 | .call f xs=>∃ v L2,EQv P ⟨none,.call f xs,none⟩ T L v L2/\k v L2
 | .callv f xs=>∃ v L2,EQv P ⟨none,.callv f xs,none⟩ T L v L2/\k v L2
 | lo=>Yz k (aj T L lo)
theorem adG {K:Tm->List Blk->Prop} {H:List kM} {r:List (ak×Kd)}:AG P K ((⟨d,op,none⟩,.eff)::r) (L::Ls) H T=adY P L (AGE P K (L::Ls) H r d T) T op:=by
 simp only [AG,EQ];have key:∀ lo:LOp,lo.isCall=false->(∃ v L2,EQv P ⟨d,lo,none⟩ T L v L2/\AGE P K (L::Ls) H r d T v L2)=Yz (AGE P K (L::Ls) H r d T) (aj T L lo):=fun lo hlo=>by
  have e:∀ v L2,EQv P ⟨d,lo,none⟩ T L v L2=(match aj T L lo with|some (c,av,L')=>c/\av=v/\L'=L2|none=>False):=fun v L2=>by
   cases lo<;>simp only [LOp.isCall,afB] at hlo<;>rfl
  simp only [e];rcases aj T L lo with _|⟨c,av,L'⟩
  ·simp [Yz]
  ·simp only [Yz,eq_iff_iff];exact ⟨fun ⟨v,L2,⟨h1,h2,h3⟩,h4⟩=>⟨h1,h2 ▸ h3 ▸ h4⟩,fun ⟨h1,h2⟩=>⟨av,L',⟨h1,rfl,rfl⟩,h2⟩⟩
 have key2:(∃ v L2,EQv P ⟨d,op,none⟩ T L v L2/\Dz P L2 H/\AG P K r (L2::L::Ls) (Ll H) (cn d v T))=(∃ v L2,EQv P ⟨d,op,none⟩ T L v L2/\AGE P K (L::Ls) H r d T v L2):=rfl;rw [key2];cases op
 case call=>rfl
 case callv=>rfl
 all_goals exact key _ rfl
theorem YC:Dz P L []=True:=rfl
theorem Wz {f:Nat} {v:AV} {H:List kM}:Dz P L ((f,⟨d,op,none⟩,T,v)::H)=(Sc P L (IsV v) T op/\Dz P L H):=by
 rw [<- Ir (d:=d)];simp [Dz,IsV]
theorem Vt {f:Nat} {v:AV} {H:List kM}:Dz P L ((f,⟨d,op,some (t,b)⟩,T,v)::H)=(Vu b (Sc P L (IsV v) T op) (IsV v (.tup [])) (ar T t)/\Dz P L H):=by
 rw [<- Ir (d:=d),<- WH (g:=fun o v=>AQ P o T L v) (k:=IsV v) (d:=d) (op:=op) (t:=t) (b:=b) (T:=T) fun v=>rfl];simp [Dz,IsV]
theorem aR {N:Nat} {own:Nat->Nat->Nat} {Q:Exit->Tm->List Blk->Prop} {qk:List (ak×Kd)} {ts:List ak} (h:AG P (jC P (Q .normal) ts) qk [L] [] T):AW P N own (.dregion qk ts) Q T L:=RS h
end
theorem Yd (xs:List Int):AV.frzL (xs.map (AV.int .i64))=xs.map (AV.int .i64):=by rw [AV.frzL_eq,afK];rfl
theorem Zt (xs:List Int):(xs.map (AV.int .i64)).all AV.one=true:=by rw [List.all_map];simp [AV.one]
theorem act:IntKind.i64.wrap 0=0:=by decide
theorem acs:IntKind.i64.wrap 1=1:=by decide
theorem acr:IntKind.i64.wrap 2=2:=by decide
theorem aaV:IntKind.i64.wrap (-1)=-1:=by decide
structure Nx (p:Prop):Prop where
 out:p
structure NxI (c p:Prop):Prop where
 out:c->p
theorem a6 {c p:Prop} (h:c->p):NxI c p:=⟨h⟩
theorem bw {p:Prop} (h:p):Nx p:=⟨h⟩
section
variable {P:Program} {L:List Blk} {body:List SOp} {d:Nat} {x:Opd} {k:Tm->Prop} {T:Tm} {c:Prop} [Decidable c] {p q:Bool}
theorem a8 (h:NxI (c) (GL P L body (IsX x q) T)) (hk:Nx (k ((d,.bool (decide c && q))::T))):GQ P L true body d x k T (decide c):=⟨q,fun e=>h.out (of_decide_eq_true e),hk.out⟩
theorem aL (h:NxI (¬ c) (GL P L body (IsX x q) T)) (hk:Nx (k ((d,.bool (!decide c && q))::T))):GQ P L true body d x k T (!decide c):=⟨q,fun e=>h.out (by simpa using e),hk.out⟩
theorem ba (h:NxI (¬ c) (GL P L body (IsX x q) T)) (hk:Nx (k ((d,.bool (decide c || q))::T))):GQ P L false body d x k T (decide c):=⟨q,fun e=>h.out (of_decide_eq_false e),hk.out⟩
theorem aM (h:NxI (c) (GL P L body (IsX x q) T)) (hk:Nx (k ((d,.bool (!decide c || q))::T))):GQ P L false body d x k T (!decide c):=⟨q,fun e=>h.out (by simpa using e),hk.out⟩
theorem bc (h:NxI (p=true) (GL P L body (IsX x q) T)) (hk:Nx (k ((d,.bool (p && q))::T))):GQ P L true body d x k T p:=⟨q,h.out,hk.out⟩
theorem aN (h:NxI (p=false) (GL P L body (IsX x q) T)) (hk:Nx (k ((d,.bool (p || q))::T))):GQ P L false body d x k T p:=⟨q,h.out,hk.out⟩
variable {a b:Prop} [Decidable a] [Decidable b]
theorem adn:(decide a && decide b)=decide (a/\b):=(agC a b).symm
theorem adl:(!decide a && decide b)=decide (¬ a/\b):=by simp [agC]
theorem adm:(decide a && !decide b)=decide (a/\¬ b):=by simp [agC]
theorem adk:(!decide a && !decide b)=decide (¬ a/\¬ b):=by simp [agC]
theorem adN:(decide a || decide b)=decide (a\/b):=(agV a b).symm
theorem adL:(!decide a || decide b)=decide (¬ a\/b):=by simp [agV]
theorem adM:(decide a || !decide b)=decide (a\/¬ b):=by simp [agV]
theorem adK:(!decide a || !decide b)=decide (¬ a\/¬ b):=by simp [agV]
end
attribute [push_cast] ab3 evD deg aeB adv ad3 adw ab7 ad2 ad1 adX adr adW adq ads WP ace acf aaD ad4 Xg ad0 GOp IsX adn adl adm adk adN adL adM adK ae7 afW afy Bool.and_false af5 ago afQ af4 af2 agj
attribute [push_cast] act acs acr aaV AGK AGR AGE IsV S8 acO acN aai aah adf adF acb aaU aaT YI aaS adG adY YC Wz Vt YB YA ady adx YE aaC Sc aav eq_self WG Ur aaQ YH WI H1 Xf aaw aaK YG AOp aj evX gw ar cn bin abX abW un eqA row iz AV.cells? bnd Xe WB aq Qw Ur elems app RJ de AV.frz AV.frzL Yd Zt afs Option.bind_none aeB aeW aeP afV if_true if_false true_and and_true aet afk aeF aeS afa aeN Qb lO abg abf ab2 aeT aeR aeJ afd afJ af9 Nat.one_mul aeX Nat.mul_zero aft afS af2 agj decide_true decide_false forall_const not_true_eq_false not_false_eq_true ne_eq aez afB afY agp afx afI cq List.set_cons_zero afX afH agA AV.one afD afW ae7 false_implies implies_true decide_eq_true_eq decide_eq_false_iff_not Nat.sub_zero Int.toNat_zero Int.toNat_natCast ae2 Bool.not_not Bool.not_eq_false
theorem lY {P:Program} {f:FuncId} {args:List AV} {L:List Blk} {K:AV->List Blk->Prop} (h:ae P f (AV.frzL args) L K):ae P f args L K:=fun w0 S0 E w vs hR hv =>
 h w0 S0 E w vs hR (VRL.frz _ _ hv)
end Go.Proofs.YtigifoeopopnbaaGreatDoor.Av
